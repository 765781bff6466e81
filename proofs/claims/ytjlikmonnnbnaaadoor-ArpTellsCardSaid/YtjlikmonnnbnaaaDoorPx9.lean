-- Written by wip/hprint.py (this session's program) through the kit's print program; hand contracts are marked 'by hand'.
import Derived.Test.YtjlikmonnnbnaaaDoorPx0
import Derived.Test.YtjlikmonnnbnaaaDoorPx8
namespace Go.Proofs.YtjlikmonnnbnaaaDoor.P
open Go.RowKit Go.Proofs.YtjlikmonnnbnaaaDoorW.PrintWords Go.Proofs.YtjlikmonnnbnaaaDoorW.PrintLast Go.Proofs.YtjlikmonnnbnaaaDoorW.PrintMore
attribute [local go_sem] max2_int min2_int max_two min_two max_three min_three max_four min_four   -- for this text's walks alone
set_option linter.unusedVariables false
set_option linter.unusedSimpArgs false

/-! ### gangwayref05_Laid: function 20 -/
def gangwayref05_Laid.f (k : Nat) (a0_0 : Int) (a0_1 : Int) (a0_2 : Int) (a0_3 : Int) (a0_4 : Int) : Option (ByteArray) := (gangwayref01_Bytes.f k (IntKind.u64.wrap (a0_0)) 2).bind fun t119 => (if 6 + t119.size ≤ 9223372036854775807 then ((gangwayref01_Bytes.f k a0_1 6).bind fun t120 => (if ((⟨#[0, 1, 8, 0, 6, 4]⟩ : ByteArray) ++ t119).size + t120.size ≤ 9223372036854775807 then ((gangwayref01_Bytes.f k (IntKind.u64.wrap (a0_2)) 4).bind fun t121 => (if (((⟨#[0, 1, 8, 0, 6, 4]⟩ : ByteArray) ++ t119) ++ t120).size + t121.size ≤ 9223372036854775807 then ((gangwayref01_Bytes.f k a0_3 6).bind fun t122 => (if ((((⟨#[0, 1, 8, 0, 6, 4]⟩ : ByteArray) ++ t119) ++ t120) ++ t121).size + t122.size ≤ 9223372036854775807 then ((gangwayref01_Bytes.f k (IntKind.u64.wrap (a0_4)) 4).bind fun t123 => (if (((((⟨#[0, 1, 8, 0, 6, 4]⟩ : ByteArray) ++ t119) ++ t120) ++ t121) ++ t122).size + t123.size ≤ 9223372036854775807 then (some ((((((⟨#[0, 1, 8, 0, 6, 4]⟩ : ByteArray) ++ t119) ++ t120) ++ t121) ++ t122) ++ t123)) else (none))) else (none))) else (none))) else (none))) else (none))
theorem gangwayref05_Laid.mono : ∀ a0 a1 a2 a3 a4 k, LeO (gangwayref05_Laid.f k a0 a1 a2 a3 a4) (gangwayref05_Laid.f (k + 1) a0 a1 a2 a3 a4) := by
  intro a0 a1 a2 a3 a4 k
  unfold gangwayref05_Laid.f
  repeat' first
      | (with_reducible exact gangwayref01_Bytes.mono _ _ _)
      | (with_reducible exact LeO.refl _)
      | (with_reducible exact LeO.none _)
      | (with_reducible refine LeO.ite ?_ ?_)
      | (with_reducible refine LeO.bind ?_ (fun _ => ?_))
      | exact gangwayref01_Bytes.mono _ _ _
      | exact LeO.none _
      | refine LeO.ite ?_ ?_
      | refine LeO.bind ?_ (fun _ => ?_)
def gangwayref05_Laid.T1 : Bool × List (List Nat × List Nat) := (true, [([], []), ([0], [0]), ([1], [1]), ([2], [2]), ([3], [3]), ([], []), ([5], [5]), ([6, 3], [6]), ([4, 7], [4, 7]), ([], []), ([9], [9]), ([10], [10]), ([11, 7], [11]), ([8, 12], [8, 12]), ([], []), ([14], [14]), ([15, 12], [15]), ([13, 16], [13, 16]), ([], []), ([18], [18]), ([19], [19]), ([20, 16], [20]), ([17, 21], [17, 21]), ([22, 21, 0, 1, 2, 3, 4, 5, 6, 7, 8, 9, 10, 11, 12, 13, 14, 15, 16, 17, 18, 19, 20, 21, 22], [22])])
def gangwayref05_Laid.B1 : List Nat := [0, 1, 3, 7, 15, 0, 32, 111, 255, 0, 512, 1536, 3823, 8191, 0, 16384, 57071, 131071, 0, 262144, 786432, 1957615, 4194303, 8388607]
theorem gangwayref05_Laid.tab1 : rtab .any (opsOf Tryd.f20 1) = gangwayref05_Laid.T1 := by kernel_rfl
theorem gangwayref05_Laid.bits1 : waitsOk gangwayref05_Laid.T1.2 gangwayref05_Laid.B1 = true := by kernel_rfl
set_option maxHeartbeats 8000000 in
set_option maxRecDepth 100000 in
theorem gangwayref05_Laid.calls (k : Nat) (a0_0 : Int) (a0_1 : Int) (a0_2 : Int) (a0_3 : Int) (a0_4 : Int) (r : ByteArray) (w : World) (h : gangwayref05_Laid.f k a0_0 a0_1 a0_2 a0_3 a0_4 = some r) :
    Calls Tryd.prog 20 #[.agg #[.int .i64 a0_0, .int .u64 a0_1, .int .u32 a0_2, .int .u64 a0_3, .int .u32 a0_4]] w fun e w' => e = .returned (.string r) ∧ Below w.heap.size w w' := by
  have hu25 := Tryd.underlying25
  have HB := Aside0.mk (Below.refl w.heap.size w)
  have H : ((gangwayref01_Bytes.f k (IntKind.u64.wrap (a0_0)) 2).bind fun t119 => (if 6 + t119.size ≤ 9223372036854775807 then ((gangwayref01_Bytes.f k a0_1 6).bind fun t120 => (if ((⟨#[0, 1, 8, 0, 6, 4]⟩ : ByteArray) ++ t119).size + t120.size ≤ 9223372036854775807 then ((gangwayref01_Bytes.f k (IntKind.u64.wrap (a0_2)) 4).bind fun t121 => (if (((⟨#[0, 1, 8, 0, 6, 4]⟩ : ByteArray) ++ t119) ++ t120).size + t121.size ≤ 9223372036854775807 then ((gangwayref01_Bytes.f k a0_3 6).bind fun t122 => (if ((((⟨#[0, 1, 8, 0, 6, 4]⟩ : ByteArray) ++ t119) ++ t120) ++ t121).size + t122.size ≤ 9223372036854775807 then ((gangwayref01_Bytes.f k (IntKind.u64.wrap (a0_4)) 4).bind fun t123 => (if (((((⟨#[0, 1, 8, 0, 6, 4]⟩ : ByteArray) ++ t119) ++ t120) ++ t121) ++ t122).size + t123.size ≤ 9223372036854775807 then (some ((((((⟨#[0, 1, 8, 0, 6, 4]⟩ : ByteArray) ++ t119) ++ t120) ++ t121) ++ t122) ++ t123)) else (none))) else (none))) else (none))) else (none))) else (none))) = some r := h
  clear h
  replace H := Option.bind_eq_some_iff.mp H
  obtain ⟨t119, A20, H⟩ := H
  replace H : (if 6 + t119.size ≤ 9223372036854775807 then ((gangwayref01_Bytes.f k a0_1 6).bind fun t120 => (if ((⟨#[0, 1, 8, 0, 6, 4]⟩ : ByteArray) ++ t119).size + t120.size ≤ 9223372036854775807 then ((gangwayref01_Bytes.f k (IntKind.u64.wrap (a0_2)) 4).bind fun t121 => (if (((⟨#[0, 1, 8, 0, 6, 4]⟩ : ByteArray) ++ t119) ++ t120).size + t121.size ≤ 9223372036854775807 then ((gangwayref01_Bytes.f k a0_3 6).bind fun t122 => (if ((((⟨#[0, 1, 8, 0, 6, 4]⟩ : ByteArray) ++ t119) ++ t120) ++ t121).size + t122.size ≤ 9223372036854775807 then ((gangwayref01_Bytes.f k (IntKind.u64.wrap (a0_4)) 4).bind fun t123 => (if (((((⟨#[0, 1, 8, 0, 6, 4]⟩ : ByteArray) ++ t119) ++ t120) ++ t121) ++ t122).size + t123.size ≤ 9223372036854775807 then (some ((((((⟨#[0, 1, 8, 0, 6, 4]⟩ : ByteArray) ++ t119) ++ t120) ++ t121) ++ t122) ++ t123)) else (none))) else (none))) else (none))) else (none))) else (none)) = some r := H
  have A2 := Aside0.mk A20
  clear A20
  by_cases c3 : 6 + t119.size ≤ 9223372036854775807
  · rw [if_pos c3] at H
    have c3b0 := eq_true c3
    have c3b1 : decide (6 + t119.size ≤ 9223372036854775807) = true := decide_eq_true c3
    try have c3b2 : (9223372036854775807 < 6 + t119.size) = False := eq_false (Nat.not_lt.2 c3)
    replace H := Option.bind_eq_some_iff.mp H
    obtain ⟨t120, A40, H⟩ := H
    replace H : (if ((⟨#[0, 1, 8, 0, 6, 4]⟩ : ByteArray) ++ t119).size + t120.size ≤ 9223372036854775807 then ((gangwayref01_Bytes.f k (IntKind.u64.wrap (a0_2)) 4).bind fun t121 => (if (((⟨#[0, 1, 8, 0, 6, 4]⟩ : ByteArray) ++ t119) ++ t120).size + t121.size ≤ 9223372036854775807 then ((gangwayref01_Bytes.f k a0_3 6).bind fun t122 => (if ((((⟨#[0, 1, 8, 0, 6, 4]⟩ : ByteArray) ++ t119) ++ t120) ++ t121).size + t122.size ≤ 9223372036854775807 then ((gangwayref01_Bytes.f k (IntKind.u64.wrap (a0_4)) 4).bind fun t123 => (if (((((⟨#[0, 1, 8, 0, 6, 4]⟩ : ByteArray) ++ t119) ++ t120) ++ t121) ++ t122).size + t123.size ≤ 9223372036854775807 then (some ((((((⟨#[0, 1, 8, 0, 6, 4]⟩ : ByteArray) ++ t119) ++ t120) ++ t121) ++ t122) ++ t123)) else (none))) else (none))) else (none))) else (none)) = some r := H
    have A4 := Aside0.mk A40
    clear A40
    by_cases c5 : ((⟨#[0, 1, 8, 0, 6, 4]⟩ : ByteArray) ++ t119).size + t120.size ≤ 9223372036854775807
    · rw [if_pos c5] at H
      have c5b0 := eq_true c5
      have c5b1 : decide (((⟨#[0, 1, 8, 0, 6, 4]⟩ : ByteArray) ++ t119).size + t120.size ≤ 9223372036854775807) = true := decide_eq_true c5
      have c5z := c5
      simp only [ByteArray.size_append] at c5z
      have c5z1 := eq_true c5z
      have c5z2 := eq_false (Nat.not_lt.2 c5z)
      try have c5b2 : (9223372036854775807 < ((⟨#[0, 1, 8, 0, 6, 4]⟩ : ByteArray) ++ t119).size + t120.size) = False := eq_false (Nat.not_lt.2 c5)
      replace H := Option.bind_eq_some_iff.mp H
      obtain ⟨t121, A60, H⟩ := H
      replace H : (if (((⟨#[0, 1, 8, 0, 6, 4]⟩ : ByteArray) ++ t119) ++ t120).size + t121.size ≤ 9223372036854775807 then ((gangwayref01_Bytes.f k a0_3 6).bind fun t122 => (if ((((⟨#[0, 1, 8, 0, 6, 4]⟩ : ByteArray) ++ t119) ++ t120) ++ t121).size + t122.size ≤ 9223372036854775807 then ((gangwayref01_Bytes.f k (IntKind.u64.wrap (a0_4)) 4).bind fun t123 => (if (((((⟨#[0, 1, 8, 0, 6, 4]⟩ : ByteArray) ++ t119) ++ t120) ++ t121) ++ t122).size + t123.size ≤ 9223372036854775807 then (some ((((((⟨#[0, 1, 8, 0, 6, 4]⟩ : ByteArray) ++ t119) ++ t120) ++ t121) ++ t122) ++ t123)) else (none))) else (none))) else (none)) = some r := H
      have A6 := Aside0.mk A60
      clear A60
      by_cases c7 : (((⟨#[0, 1, 8, 0, 6, 4]⟩ : ByteArray) ++ t119) ++ t120).size + t121.size ≤ 9223372036854775807
      · rw [if_pos c7] at H
        have c7b0 := eq_true c7
        have c7b1 : decide ((((⟨#[0, 1, 8, 0, 6, 4]⟩ : ByteArray) ++ t119) ++ t120).size + t121.size ≤ 9223372036854775807) = true := decide_eq_true c7
        have c7z := c7
        simp only [ByteArray.size_append] at c7z
        have c7z1 := eq_true c7z
        have c7z2 := eq_false (Nat.not_lt.2 c7z)
        try have c7b2 : (9223372036854775807 < (((⟨#[0, 1, 8, 0, 6, 4]⟩ : ByteArray) ++ t119) ++ t120).size + t121.size) = False := eq_false (Nat.not_lt.2 c7)
        replace H := Option.bind_eq_some_iff.mp H
        obtain ⟨t122, A80, H⟩ := H
        replace H : (if ((((⟨#[0, 1, 8, 0, 6, 4]⟩ : ByteArray) ++ t119) ++ t120) ++ t121).size + t122.size ≤ 9223372036854775807 then ((gangwayref01_Bytes.f k (IntKind.u64.wrap (a0_4)) 4).bind fun t123 => (if (((((⟨#[0, 1, 8, 0, 6, 4]⟩ : ByteArray) ++ t119) ++ t120) ++ t121) ++ t122).size + t123.size ≤ 9223372036854775807 then (some ((((((⟨#[0, 1, 8, 0, 6, 4]⟩ : ByteArray) ++ t119) ++ t120) ++ t121) ++ t122) ++ t123)) else (none))) else (none)) = some r := H
        have A8 := Aside0.mk A80
        clear A80
        by_cases c9 : ((((⟨#[0, 1, 8, 0, 6, 4]⟩ : ByteArray) ++ t119) ++ t120) ++ t121).size + t122.size ≤ 9223372036854775807
        · rw [if_pos c9] at H
          have c9b0 := eq_true c9
          have c9b1 : decide (((((⟨#[0, 1, 8, 0, 6, 4]⟩ : ByteArray) ++ t119) ++ t120) ++ t121).size + t122.size ≤ 9223372036854775807) = true := decide_eq_true c9
          have c9z := c9
          simp only [ByteArray.size_append] at c9z
          have c9z1 := eq_true c9z
          have c9z2 := eq_false (Nat.not_lt.2 c9z)
          try have c9b2 : (9223372036854775807 < ((((⟨#[0, 1, 8, 0, 6, 4]⟩ : ByteArray) ++ t119) ++ t120) ++ t121).size + t122.size) = False := eq_false (Nat.not_lt.2 c9)
          replace H := Option.bind_eq_some_iff.mp H
          obtain ⟨t123, A100, H⟩ := H
          replace H : (if (((((⟨#[0, 1, 8, 0, 6, 4]⟩ : ByteArray) ++ t119) ++ t120) ++ t121) ++ t122).size + t123.size ≤ 9223372036854775807 then (some ((((((⟨#[0, 1, 8, 0, 6, 4]⟩ : ByteArray) ++ t119) ++ t120) ++ t121) ++ t122) ++ t123)) else (none)) = some r := H
          have A10 := Aside0.mk A100
          clear A100
          by_cases c11 : (((((⟨#[0, 1, 8, 0, 6, 4]⟩ : ByteArray) ++ t119) ++ t120) ++ t121) ++ t122).size + t123.size ≤ 9223372036854775807
          · rw [if_pos c11] at H
            have c11b0 := eq_true c11
            have c11b1 : decide ((((((⟨#[0, 1, 8, 0, 6, 4]⟩ : ByteArray) ++ t119) ++ t120) ++ t121) ++ t122).size + t123.size ≤ 9223372036854775807) = true := decide_eq_true c11
            have c11z := c11
            simp only [ByteArray.size_append] at c11z
            have c11z1 := eq_true c11z
            have c11z2 := eq_false (Nat.not_lt.2 c11z)
            try have c11b2 : (9223372036854775807 < (((((⟨#[0, 1, 8, 0, 6, 4]⟩ : ByteArray) ++ t119) ++ t120) ++ t121) ++ t122).size + t123.size) = False := eq_false (Nat.not_lt.2 c11)
            obtain rfl := Option.some.inj H
            go_enter Tryd.func20, Tryd.ntmps20
            try go_wp2_with (first | ((with_reducible refine gate_dst (N := 1) rfl ?_); refine box_event ?hg (N := 1) ?hd (cs := #[.int .i64 a0_0, .int .u64 a0_1, .int .u32 a0_2, .int .u64 a0_3, .int .u32 a0_4]) (t := 25) ?hr ?_; (case hd => rfl); (case hg => rfl); (case hr => first | (go_simp; done) | (go_simp; rfl)); intro gb118 hg w12 hbox hb; have n0_ := Aside0.mk (below_step (by repeat (first | (with_reducible first | exact HB.out | apply below_alloc | apply pw_below_drewN | apply below_drew1) | exact HB.out)) hb); have n1_ := Aside0.mk (hbox); have n2_ := Aside0.mk ((by rw [hg]; exact (below_size (by repeat (first | (with_reducible first | exact HB.out | apply below_alloc | apply pw_below_drewN | apply below_drew1) | exact HB.out))) : w.heap.size ≤ gb118)); have n3_ := Aside0.mk ((by rw [hg]; exact (below_size (by repeat (first | (with_reducible first | exact HB.out | apply below_alloc | apply pw_below_drewN | apply below_drew1) | exact HB.out))) : w.heap.size ≤ gb118)); clear HB; have HB := n0_; have BK118 := n1_; have GW118 := n2_; have GE118 := n3_; clear n0_ n1_ n2_ n3_; clear hb hbox hg))
            have n0_ := Aside0.mk (blk_drew BK118.out)
            have n1_ := Aside0.mk (below_drew1 HB.out)
            clear BK118
            clear HB
            have BK118 := n0_
            have HB := n1_
            clear n0_ n1_
            refine start_ (n := 24) (S := fun w' => w'.cell? ⟨gb118, 0, none⟩ = some (.int .i64 a0_0) ∧ w'.cell? ⟨gb118, 1, none⟩ = some (.int .u64 a0_1) ∧ w'.cell? ⟨gb118, 2, none⟩ = some (.int .u32 a0_2) ∧ w'.cell? ⟨gb118, 3, none⟩ = some (.int .u64 a0_3) ∧ w'.cell? ⟨gb118, 4, none⟩ = some (.int .u32 a0_4)) (ds := []) #[false, false, false, false, false, false, false, false, false, false, false, false, false, false, false, false, false, false, false, false, false, false, false, false] (by kernel_rfl) rfl rfl ⟨(blk_cell BK118.out 0).trans rfl, (blk_cell BK118.out 1).trans rfl, (blk_cell BK118.out 2).trans rfl, (blk_cell BK118.out 3).trans rfl, (blk_cell BK118.out 4).trans rfl⟩ (fun hHeld => ?_); refine with_tabW gangwayref05_Laid.tab1 gangwayref05_Laid.bits1 (fun HT_ HW_ => ?_)
            generalize w12.drew = w13 at BK118 HB hHeld ⊢
            refine pure_ (i := 0) (N := some 3) (v := ?_) (a' := ?_) #[true, false, false, false, false, false, false, false, false, false, false, false, false, false, false, false, false, false, false, false, false, false, false, false] rfl rfl (any_of HT_.out (by kernel_rfl)) (fun _ _ _ h => h) (Or.inl ⟨by rfl, ?_⟩) ?_ ?_
            rotate_left
            · intro w'
              go_simp
              first | with_reducible rfl | (rw [if_neg (by have hz0_ : (⟨#[0, 1, 8, 0, 6, 4]⟩ : ByteArray).size = 6 := rfl; (try simp only [decide_eq_true_eq, ByteArray.size_append, ByteArray.size_extract, eq_iff_iff, iff_true, iff_false, Nat.not_lt] at *); omega)]; try with_reducible rfl)
            rotate_left
            · simp only [Act.put, List.setIfInBounds_toArray, List.set_cons_zero, List.set_cons_succ, i64_w, i32_w]
              rfl
            refine pure_ (i := 5) (N := some 8) (v := ?_) (a' := ?_) #[true, false, false, false, false, true, false, false, false, false, false, false, false, false, false, false, false, false, false, false, false, false, false, false] rfl rfl (any_of HT_.out (by kernel_rfl)) (fun _ _ _ h => h) (Or.inl ⟨by rfl, ?_⟩) ?_ ?_
            rotate_left
            · intro w'
              go_simp
              first | with_reducible rfl | (rw [if_neg (by have hz0_ : (⟨#[0, 1, 8, 0, 6, 4]⟩ : ByteArray).size = 6 := rfl; (try simp only [decide_eq_true_eq, ByteArray.size_append, ByteArray.size_extract, eq_iff_iff, iff_true, iff_false, Nat.not_lt] at *); omega)]; try with_reducible rfl)
            rotate_left
            · simp only [Act.put, List.setIfInBounds_toArray, List.set_cons_zero, List.set_cons_succ, i64_w, i32_w]
              rfl
            refine pure_ (i := 9) (N := some 12) (v := ?_) (a' := ?_) #[true, false, false, false, false, true, false, false, false, true, false, false, false, false, false, false, false, false, false, false, false, false, false, false] rfl rfl (any_of HT_.out (by kernel_rfl)) (fun _ _ _ h => h) (Or.inl ⟨by rfl, ?_⟩) ?_ ?_
            rotate_left
            · intro w'
              go_simp
              first | with_reducible rfl | (rw [if_neg (by have hz0_ : (⟨#[0, 1, 8, 0, 6, 4]⟩ : ByteArray).size = 6 := rfl; (try simp only [decide_eq_true_eq, ByteArray.size_append, ByteArray.size_extract, eq_iff_iff, iff_true, iff_false, Nat.not_lt] at *); omega)]; try with_reducible rfl)
            rotate_left
            · simp only [Act.put, List.setIfInBounds_toArray, List.set_cons_zero, List.set_cons_succ, i64_w, i32_w]
              rfl
            refine pure_ (i := 14) (N := some 17) (v := ?_) (a' := ?_) #[true, false, false, false, false, true, false, false, false, true, false, false, false, false, true, false, false, false, false, false, false, false, false, false] rfl rfl (any_of HT_.out (by kernel_rfl)) (fun _ _ _ h => h) (Or.inl ⟨by rfl, ?_⟩) ?_ ?_
            rotate_left
            · intro w'
              go_simp
              first | with_reducible rfl | (rw [if_neg (by have hz0_ : (⟨#[0, 1, 8, 0, 6, 4]⟩ : ByteArray).size = 6 := rfl; (try simp only [decide_eq_true_eq, ByteArray.size_append, ByteArray.size_extract, eq_iff_iff, iff_true, iff_false, Nat.not_lt] at *); omega)]; try with_reducible rfl)
            rotate_left
            · simp only [Act.put, List.setIfInBounds_toArray, List.set_cons_zero, List.set_cons_succ, i64_w, i32_w]
              rfl
            refine pure_ (i := 18) (N := some 21) (v := ?_) (a' := ?_) #[true, false, false, false, false, true, false, false, false, true, false, false, false, false, true, false, false, false, true, false, false, false, false, false] rfl rfl (any_of HT_.out (by kernel_rfl)) (fun _ _ _ h => h) (Or.inl ⟨by rfl, ?_⟩) ?_ ?_
            rotate_left
            · intro w'
              go_simp
              first | with_reducible rfl | (rw [if_neg (by have hz0_ : (⟨#[0, 1, 8, 0, 6, 4]⟩ : ByteArray).size = 6 := rfl; (try simp only [decide_eq_true_eq, ByteArray.size_append, ByteArray.size_extract, eq_iff_iff, iff_true, iff_false, Nat.not_lt] at *); omega)]; try with_reducible rfl)
            rotate_left
            · simp only [Act.put, List.setIfInBounds_toArray, List.set_cons_zero, List.set_cons_succ, i64_w, i32_w]
              rfl
            refine take_ (i := 1) (N := some 4) (v := ?_) (a' := ?_) #[true, true, false, false, false, true, false, false, false, true, false, false, false, false, true, false, false, false, true, false, false, false, false, false] rfl rfl (take_ofW HT_.out HW_.out (by kernel_rfl)) (fun _ _ _ h => h) (Or.inl ⟨by rfl, ?_⟩) hHeld ?_ ?_
            rotate_left
            · rintro w' ⟨s0, s1, s2, s3, s4⟩
              go_simp
              with_reducible rfl
            rotate_left
            · simp only [Act.put, List.setIfInBounds_toArray, List.set_cons_zero, List.set_cons_succ, i64_w, i32_w]
              rfl
            refine pure_ (i := 2) (N := some 5) (v := ?_) (a' := ?_) #[true, true, true, false, false, true, false, false, false, true, false, false, false, false, true, false, false, false, true, false, false, false, false, false] rfl rfl (any_of HT_.out (by kernel_rfl)) (fun _ _ _ h => h) (Or.inl ⟨by rfl, ?_⟩) ?_ ?_
            rotate_left
            · intro w'
              go_simp
              first | with_reducible rfl | (rw [if_neg (by have hz0_ : (⟨#[0, 1, 8, 0, 6, 4]⟩ : ByteArray).size = 6 := rfl; (try simp only [decide_eq_true_eq, ByteArray.size_append, ByteArray.size_extract, eq_iff_iff, iff_true, iff_false, Nat.not_lt] at *); omega)]; try with_reducible rfl)
            rotate_left
            · simp only [Act.put, List.setIfInBounds_toArray, List.set_cons_zero, List.set_cons_succ, i64_w, i32_w]
              rfl
            refine take_ (i := 6) (N := some 9) (v := ?_) (a' := ?_) #[true, true, true, false, false, true, true, false, false, true, false, false, false, false, true, false, false, false, true, false, false, false, false, false] rfl rfl (take_ofW HT_.out HW_.out (by kernel_rfl)) (fun _ _ _ h => h) (Or.inl ⟨by rfl, ?_⟩) hHeld ?_ ?_
            rotate_left
            · rintro w' ⟨s0, s1, s2, s3, s4⟩
              go_simp
              with_reducible rfl
            rotate_left
            · simp only [Act.put, List.setIfInBounds_toArray, List.set_cons_zero, List.set_cons_succ, i64_w, i32_w]
              rfl
            refine take_ (i := 10) (N := some 13) (v := ?_) (a' := ?_) #[true, true, true, false, false, true, true, false, false, true, true, false, false, false, true, false, false, false, true, false, false, false, false, false] rfl rfl (take_ofW HT_.out HW_.out (by kernel_rfl)) (fun _ _ _ h => h) (Or.inl ⟨by rfl, ?_⟩) hHeld ?_ ?_
            rotate_left
            · rintro w' ⟨s0, s1, s2, s3, s4⟩
              go_simp
              with_reducible rfl
            rotate_left
            · simp only [Act.put, List.setIfInBounds_toArray, List.set_cons_zero, List.set_cons_succ, i64_w, i32_w]
              rfl
            refine pure_ (i := 11) (N := some 14) (v := ?_) (a' := ?_) #[true, true, true, false, false, true, true, false, false, true, true, true, false, false, true, false, false, false, true, false, false, false, false, false] rfl rfl (any_of HT_.out (by kernel_rfl)) (fun _ _ _ h => h) (Or.inl ⟨by rfl, ?_⟩) ?_ ?_
            rotate_left
            · intro w'
              go_simp
              first | with_reducible rfl | (rw [if_neg (by have hz0_ : (⟨#[0, 1, 8, 0, 6, 4]⟩ : ByteArray).size = 6 := rfl; (try simp only [decide_eq_true_eq, ByteArray.size_append, ByteArray.size_extract, eq_iff_iff, iff_true, iff_false, Nat.not_lt] at *); omega)]; try with_reducible rfl)
            rotate_left
            · simp only [Act.put, List.setIfInBounds_toArray, List.set_cons_zero, List.set_cons_succ, i64_w, i32_w]
              rfl
            refine take_ (i := 15) (N := some 18) (v := ?_) (a' := ?_) #[true, true, true, false, false, true, true, false, false, true, true, true, false, false, true, true, false, false, true, false, false, false, false, false] rfl rfl (take_ofW HT_.out HW_.out (by kernel_rfl)) (fun _ _ _ h => h) (Or.inl ⟨by rfl, ?_⟩) hHeld ?_ ?_
            rotate_left
            · rintro w' ⟨s0, s1, s2, s3, s4⟩
              go_simp
              with_reducible rfl
            rotate_left
            · simp only [Act.put, List.setIfInBounds_toArray, List.set_cons_zero, List.set_cons_succ, i64_w, i32_w]
              rfl
            refine take_ (i := 19) (N := some 22) (v := ?_) (a' := ?_) #[true, true, true, false, false, true, true, false, false, true, true, true, false, false, true, true, false, false, true, true, false, false, false, false] rfl rfl (take_ofW HT_.out HW_.out (by kernel_rfl)) (fun _ _ _ h => h) (Or.inl ⟨by rfl, ?_⟩) hHeld ?_ ?_
            rotate_left
            · rintro w' ⟨s0, s1, s2, s3, s4⟩
              go_simp
              with_reducible rfl
            rotate_left
            · simp only [Act.put, List.setIfInBounds_toArray, List.set_cons_zero, List.set_cons_succ, i64_w, i32_w]
              rfl
            refine pure_ (i := 20) (N := some 23) (v := ?_) (a' := ?_) #[true, true, true, false, false, true, true, false, false, true, true, true, false, false, true, true, false, false, true, true, true, false, false, false] rfl rfl (any_of HT_.out (by kernel_rfl)) (fun _ _ _ h => h) (Or.inl ⟨by rfl, ?_⟩) ?_ ?_
            rotate_left
            · intro w'
              go_simp
              first | with_reducible rfl | (rw [if_neg (by have hz0_ : (⟨#[0, 1, 8, 0, 6, 4]⟩ : ByteArray).size = 6 := rfl; (try simp only [decide_eq_true_eq, ByteArray.size_append, ByteArray.size_extract, eq_iff_iff, iff_true, iff_false, Nat.not_lt] at *); omega)]; try with_reducible rfl)
            rotate_left
            · simp only [Act.put, List.setIfInBounds_toArray, List.set_cons_zero, List.set_cons_succ, i64_w, i32_w]
              rfl
            refine one_ (i := 3) (N := some 6) #[true, true, true, true, false, true, true, false, false, true, true, true, false, false, true, true, false, false, true, true, true, false, false, false] rfl rfl (one_of HT_.out (by kernel_rfl)) (by decide) (fun K hK => ?_)
            refine goes_ Tryd.func31 (by kernel_rfl) rfl #[.int .u64 (IntKind.u64.wrap (a0_0)), .int .i64 2] (by first | rfl | exact wanted_on rfl rfl rfl (by first | rfl | (simp [*]; done) | (simp [*, IntKind.wrap_u32]; done))) rfl rfl (by (try simp only [List.map_toArray, List.map_cons, List.map_nil]); first | done | rfl | (simp only [List.length_drop, List.length_take]; rfl)) ?_
            with_reducible refine (gangwayref01_Bytes.calls k (IntKind.u64.wrap (a0_0)) 2 t119 _ A2.out).mono ?_
            rintro e w14 ⟨rfl, hb⟩
            refine ⟨_, rfl, ?_⟩
            have n0_ := Aside0.mk (blk_below (g := gb118) (o := .cells #[.int .i64 a0_0, .int .u64 a0_1, .int .u32 a0_2, .int .u64 a0_3, .int .u32 a0_4] 25 (0, 0)) (by (with_reducible repeat (first | refine blk_drewN ?_ _ | refine blk_drew ?_ | refine blk_alloc ?_ _)); exact BK118.out) hb)
            have n1_ := Aside0.mk (below_step (by repeat (first | (with_reducible first | exact HB.out | apply below_alloc | apply pw_below_drewN | apply below_drew1 | refine below_set ?_ GE118.out) | exact HB.out)) hb)
            clear BK118
            clear HB
            have BK118 := n0_
            have HB := n1_
            clear n0_ n1_
            (try clear hb)
            (try clear hb2)
            (try clear hk)
            (try clear hi)
            refine hK.out _ _ ⟨(blk_cell BK118.out 0).trans rfl, (blk_cell BK118.out 1).trans rfl, (blk_cell BK118.out 2).trans rfl, (blk_cell BK118.out 3).trans rfl, (blk_cell BK118.out 4).trans rfl⟩ (fun hHeld => ?_)
            clear hK K
            refine norm_ (a' := ?_) ?_ ?_
            rotate_left
            · show Act.put _ (some 6) _ = _
              simp only [Act.put, List.setIfInBounds_toArray, List.set_cons_zero, List.set_cons_succ, i64_w, i32_w]
              rfl
            refine pure_ (i := 4) (N := some 7) (v := ?_) (a' := ?_) #[true, true, true, true, true, true, true, false, false, true, true, true, false, false, true, true, false, false, true, true, true, false, false, false] rfl rfl (any_of HT_.out (by kernel_rfl)) (fun _ _ _ h => h) (Or.inl ⟨by rfl, ?_⟩) ?_ ?_
            rotate_left
            · intro w'
              go_simp
              first | with_reducible rfl | (rw [if_neg (by have hz0_ : (⟨#[0, 1, 8, 0, 6, 4]⟩ : ByteArray).size = 6 := rfl; (try simp only [decide_eq_true_eq, ByteArray.size_append, ByteArray.size_extract, eq_iff_iff, iff_true, iff_false, Nat.not_lt] at *); omega)]; try with_reducible rfl)
            rotate_left
            · simp only [Act.put, List.setIfInBounds_toArray, List.set_cons_zero, List.set_cons_succ, i64_w, i32_w]
              rfl
            refine one_ (i := 7) (N := some 10) #[true, true, true, true, true, true, true, true, false, true, true, true, false, false, true, true, false, false, true, true, true, false, false, false] rfl rfl (one_of HT_.out (by kernel_rfl)) (by decide) (fun K hK => ?_)
            refine goes_ Tryd.func31 (by kernel_rfl) rfl #[.int .u64 a0_1, .int .i64 6] (by first | rfl | exact wanted_on rfl rfl rfl (by first | rfl | (simp [*]; done) | (simp [*, IntKind.wrap_u32]; done))) rfl rfl (by (try simp only [List.map_toArray, List.map_cons, List.map_nil]); first | done | rfl | (simp only [List.length_drop, List.length_take]; rfl)) ?_
            with_reducible refine (gangwayref01_Bytes.calls k a0_1 6 t120 _ A4.out).mono ?_
            rintro e w15 ⟨rfl, hb⟩
            refine ⟨_, rfl, ?_⟩
            have n0_ := Aside0.mk (blk_below (g := gb118) (o := .cells #[.int .i64 a0_0, .int .u64 a0_1, .int .u32 a0_2, .int .u64 a0_3, .int .u32 a0_4] 25 (0, 0)) (by (with_reducible repeat (first | refine blk_drewN ?_ _ | refine blk_drew ?_ | refine blk_alloc ?_ _)); exact BK118.out) hb)
            have n1_ := Aside0.mk (below_step (by repeat (first | (with_reducible first | exact HB.out | apply below_alloc | apply pw_below_drewN | apply below_drew1 | refine below_set ?_ GE118.out) | exact HB.out)) hb)
            clear BK118
            clear HB
            have BK118 := n0_
            have HB := n1_
            clear n0_ n1_
            (try clear hb)
            (try clear hb2)
            (try clear hk)
            (try clear hi)
            refine hK.out _ _ ⟨(blk_cell BK118.out 0).trans rfl, (blk_cell BK118.out 1).trans rfl, (blk_cell BK118.out 2).trans rfl, (blk_cell BK118.out 3).trans rfl, (blk_cell BK118.out 4).trans rfl⟩ (fun hHeld => ?_)
            clear hK K
            refine norm_ (a' := ?_) ?_ ?_
            rotate_left
            · show Act.put _ (some 10) _ = _
              simp only [Act.put, List.setIfInBounds_toArray, List.set_cons_zero, List.set_cons_succ, i64_w, i32_w]
              rfl
            refine pure_ (i := 8) (N := some 11) (v := ?_) (a' := ?_) #[true, true, true, true, true, true, true, true, true, true, true, true, false, false, true, true, false, false, true, true, true, false, false, false] rfl rfl (any_of HT_.out (by kernel_rfl)) (fun _ _ _ h => h) (Or.inl ⟨by rfl, ?_⟩) ?_ ?_
            rotate_left
            · intro w'
              go_simp
              first | with_reducible rfl | (rw [if_neg (by have hz0_ : (⟨#[0, 1, 8, 0, 6, 4]⟩ : ByteArray).size = 6 := rfl; (try simp only [decide_eq_true_eq, ByteArray.size_append, ByteArray.size_extract, eq_iff_iff, iff_true, iff_false, Nat.not_lt] at *); omega)]; try with_reducible rfl)
            rotate_left
            · simp only [Act.put, List.setIfInBounds_toArray, List.set_cons_zero, List.set_cons_succ, i64_w, i32_w]
              rfl
            refine one_ (i := 12) (N := some 15) #[true, true, true, true, true, true, true, true, true, true, true, true, true, false, true, true, false, false, true, true, true, false, false, false] rfl rfl (one_of HT_.out (by kernel_rfl)) (by decide) (fun K hK => ?_)
            refine goes_ Tryd.func31 (by kernel_rfl) rfl #[.int .u64 (IntKind.u64.wrap (a0_2)), .int .i64 4] (by first | rfl | exact wanted_on rfl rfl rfl (by first | rfl | (simp [*]; done) | (simp [*, IntKind.wrap_u32]; done))) rfl rfl (by (try simp only [List.map_toArray, List.map_cons, List.map_nil]); first | done | rfl | (simp only [List.length_drop, List.length_take]; rfl)) ?_
            with_reducible refine (gangwayref01_Bytes.calls k (IntKind.u64.wrap (a0_2)) 4 t121 _ A6.out).mono ?_
            rintro e w16 ⟨rfl, hb⟩
            refine ⟨_, rfl, ?_⟩
            have n0_ := Aside0.mk (blk_below (g := gb118) (o := .cells #[.int .i64 a0_0, .int .u64 a0_1, .int .u32 a0_2, .int .u64 a0_3, .int .u32 a0_4] 25 (0, 0)) (by (with_reducible repeat (first | refine blk_drewN ?_ _ | refine blk_drew ?_ | refine blk_alloc ?_ _)); exact BK118.out) hb)
            have n1_ := Aside0.mk (below_step (by repeat (first | (with_reducible first | exact HB.out | apply below_alloc | apply pw_below_drewN | apply below_drew1 | refine below_set ?_ GE118.out) | exact HB.out)) hb)
            clear BK118
            clear HB
            have BK118 := n0_
            have HB := n1_
            clear n0_ n1_
            (try clear hb)
            (try clear hb2)
            (try clear hk)
            (try clear hi)
            refine hK.out _ _ ⟨(blk_cell BK118.out 0).trans rfl, (blk_cell BK118.out 1).trans rfl, (blk_cell BK118.out 2).trans rfl, (blk_cell BK118.out 3).trans rfl, (blk_cell BK118.out 4).trans rfl⟩ (fun hHeld => ?_)
            clear hK K
            refine norm_ (a' := ?_) ?_ ?_
            rotate_left
            · show Act.put _ (some 15) _ = _
              simp only [Act.put, List.setIfInBounds_toArray, List.set_cons_zero, List.set_cons_succ, i64_w, i32_w]
              rfl
            refine pure_ (i := 13) (N := some 16) (v := ?_) (a' := ?_) #[true, true, true, true, true, true, true, true, true, true, true, true, true, true, true, true, false, false, true, true, true, false, false, false] rfl rfl (any_of HT_.out (by kernel_rfl)) (fun _ _ _ h => h) (Or.inl ⟨by rfl, ?_⟩) ?_ ?_
            rotate_left
            · intro w'
              go_simp
              first | with_reducible rfl | (rw [if_neg (by have hz0_ : (⟨#[0, 1, 8, 0, 6, 4]⟩ : ByteArray).size = 6 := rfl; (try simp only [decide_eq_true_eq, ByteArray.size_append, ByteArray.size_extract, eq_iff_iff, iff_true, iff_false, Nat.not_lt] at *); omega)]; try with_reducible rfl)
            rotate_left
            · simp only [Act.put, List.setIfInBounds_toArray, List.set_cons_zero, List.set_cons_succ, i64_w, i32_w]
              rfl
            refine one_ (i := 16) (N := some 19) #[true, true, true, true, true, true, true, true, true, true, true, true, true, true, true, true, true, false, true, true, true, false, false, false] rfl rfl (one_of HT_.out (by kernel_rfl)) (by decide) (fun K hK => ?_)
            refine goes_ Tryd.func31 (by kernel_rfl) rfl #[.int .u64 a0_3, .int .i64 6] (by first | rfl | exact wanted_on rfl rfl rfl (by first | rfl | (simp [*]; done) | (simp [*, IntKind.wrap_u32]; done))) rfl rfl (by (try simp only [List.map_toArray, List.map_cons, List.map_nil]); first | done | rfl | (simp only [List.length_drop, List.length_take]; rfl)) ?_
            with_reducible refine (gangwayref01_Bytes.calls k a0_3 6 t122 _ A8.out).mono ?_
            rintro e w17 ⟨rfl, hb⟩
            refine ⟨_, rfl, ?_⟩
            have n0_ := Aside0.mk (blk_below (g := gb118) (o := .cells #[.int .i64 a0_0, .int .u64 a0_1, .int .u32 a0_2, .int .u64 a0_3, .int .u32 a0_4] 25 (0, 0)) (by (with_reducible repeat (first | refine blk_drewN ?_ _ | refine blk_drew ?_ | refine blk_alloc ?_ _)); exact BK118.out) hb)
            have n1_ := Aside0.mk (below_step (by repeat (first | (with_reducible first | exact HB.out | apply below_alloc | apply pw_below_drewN | apply below_drew1 | refine below_set ?_ GE118.out) | exact HB.out)) hb)
            clear BK118
            clear HB
            have BK118 := n0_
            have HB := n1_
            clear n0_ n1_
            (try clear hb)
            (try clear hb2)
            (try clear hk)
            (try clear hi)
            refine hK.out _ _ ⟨(blk_cell BK118.out 0).trans rfl, (blk_cell BK118.out 1).trans rfl, (blk_cell BK118.out 2).trans rfl, (blk_cell BK118.out 3).trans rfl, (blk_cell BK118.out 4).trans rfl⟩ (fun hHeld => ?_)
            clear hK K
            refine norm_ (a' := ?_) ?_ ?_
            rotate_left
            · show Act.put _ (some 19) _ = _
              simp only [Act.put, List.setIfInBounds_toArray, List.set_cons_zero, List.set_cons_succ, i64_w, i32_w]
              rfl
            refine pure_ (i := 17) (N := some 20) (v := ?_) (a' := ?_) #[true, true, true, true, true, true, true, true, true, true, true, true, true, true, true, true, true, true, true, true, true, false, false, false] rfl rfl (any_of HT_.out (by kernel_rfl)) (fun _ _ _ h => h) (Or.inl ⟨by rfl, ?_⟩) ?_ ?_
            rotate_left
            · intro w'
              go_simp
              first | with_reducible rfl | (rw [if_neg (by have hz0_ : (⟨#[0, 1, 8, 0, 6, 4]⟩ : ByteArray).size = 6 := rfl; (try simp only [decide_eq_true_eq, ByteArray.size_append, ByteArray.size_extract, eq_iff_iff, iff_true, iff_false, Nat.not_lt] at *); omega)]; try with_reducible rfl)
            rotate_left
            · simp only [Act.put, List.setIfInBounds_toArray, List.set_cons_zero, List.set_cons_succ, i64_w, i32_w]
              rfl
            refine one_ (i := 21) (N := some 24) #[true, true, true, true, true, true, true, true, true, true, true, true, true, true, true, true, true, true, true, true, true, true, false, false] rfl rfl (one_of HT_.out (by kernel_rfl)) (by decide) (fun K hK => ?_)
            refine goes_ Tryd.func31 (by kernel_rfl) rfl #[.int .u64 (IntKind.u64.wrap (a0_4)), .int .i64 4] (by first | rfl | exact wanted_on rfl rfl rfl (by first | rfl | (simp [*]; done) | (simp [*, IntKind.wrap_u32]; done))) rfl rfl (by (try simp only [List.map_toArray, List.map_cons, List.map_nil]); first | done | rfl | (simp only [List.length_drop, List.length_take]; rfl)) ?_
            with_reducible refine (gangwayref01_Bytes.calls k (IntKind.u64.wrap (a0_4)) 4 t123 _ A10.out).mono ?_
            rintro e w18 ⟨rfl, hb⟩
            refine ⟨_, rfl, ?_⟩
            have n0_ := Aside0.mk (blk_below (g := gb118) (o := .cells #[.int .i64 a0_0, .int .u64 a0_1, .int .u32 a0_2, .int .u64 a0_3, .int .u32 a0_4] 25 (0, 0)) (by (with_reducible repeat (first | refine blk_drewN ?_ _ | refine blk_drew ?_ | refine blk_alloc ?_ _)); exact BK118.out) hb)
            have n1_ := Aside0.mk (below_step (by repeat (first | (with_reducible first | exact HB.out | apply below_alloc | apply pw_below_drewN | apply below_drew1 | refine below_set ?_ GE118.out) | exact HB.out)) hb)
            clear BK118
            clear HB
            have BK118 := n0_
            have HB := n1_
            clear n0_ n1_
            (try clear hb)
            (try clear hb2)
            (try clear hk)
            (try clear hi)
            refine hK.out _ _ ⟨(blk_cell BK118.out 0).trans rfl, (blk_cell BK118.out 1).trans rfl, (blk_cell BK118.out 2).trans rfl, (blk_cell BK118.out 3).trans rfl, (blk_cell BK118.out 4).trans rfl⟩ (fun hHeld => ?_)
            clear hK K
            refine norm_ (a' := ?_) ?_ ?_
            rotate_left
            · show Act.put _ (some 24) _ = _
              simp only [Act.put, List.setIfInBounds_toArray, List.set_cons_zero, List.set_cons_succ, i64_w, i32_w]
              rfl
            refine pure_ (i := 22) (N := some 25) (v := ?_) (a' := ?_) #[true, true, true, true, true, true, true, true, true, true, true, true, true, true, true, true, true, true, true, true, true, true, true, false] rfl rfl (any_of HT_.out (by kernel_rfl)) (fun _ _ _ h => h) (Or.inl ⟨by rfl, ?_⟩) ?_ ?_
            rotate_left
            · intro w'
              go_simp
              first | with_reducible rfl | (rw [if_neg (by have hz0_ : (⟨#[0, 1, 8, 0, 6, 4]⟩ : ByteArray).size = 6 := rfl; (try simp only [decide_eq_true_eq, ByteArray.size_append, ByteArray.size_extract, eq_iff_iff, iff_true, iff_false, Nat.not_lt] at *); omega)]; try with_reducible rfl)
            rotate_left
            · simp only [Act.put, List.setIfInBounds_toArray, List.set_cons_zero, List.set_cons_succ, i64_w, i32_w]
              rfl
            refine pure_ (i := 23) (N := some 2) (v := ?_) (a' := ?_) #[true, true, true, true, true, true, true, true, true, true, true, true, true, true, true, true, true, true, true, true, true, true, true, true] rfl rfl (any_of HT_.out (by kernel_rfl)) (fun _ _ _ h => h) (Or.inl ⟨by rfl, ?_⟩) ?_ ?_
            rotate_left
            · intro w'
              go_simp
              first | with_reducible rfl | (rw [if_neg (by have hz0_ : (⟨#[0, 1, 8, 0, 6, 4]⟩ : ByteArray).size = 6 := rfl; (try simp only [decide_eq_true_eq, ByteArray.size_append, ByteArray.size_extract, eq_iff_iff, iff_true, iff_false, Nat.not_lt] at *); omega)]; try with_reducible rfl)
            rotate_left
            · simp only [Act.put, List.setIfInBounds_toArray, List.set_cons_zero, List.set_cons_succ, i64_w, i32_w]
              rfl
            refine done_ (done_of HT_.out (by kernel_rfl)) ?_
            try go_wp2
            go_ret
            exact ⟨by first | rfl | (simp [errW_none, errW_some] <;> rfl) | (simp [*, errW_none, errW_some] <;> rfl) | (simp [*, IntKind.wrap_u32]; done) | (simp_all [IntKind.wrap_u32]; done), by repeat (first | (with_reducible first | exact HB.out | apply below_alloc | apply pw_below_drewN | apply below_drew1 | refine below_set ?_ GE118.out) | exact HB.out)⟩
          · rw [if_neg c11] at H
            exact absurd H (by simp)
        · rw [if_neg c9] at H
          exact absurd H (by simp)
      · rw [if_neg c7] at H
        exact absurd H (by simp)
    · rw [if_neg c5] at H
      exact absurd H (by simp)
  · rw [if_neg c3] at H
    exact absurd H (by simp)

end Go.Proofs.YtjlikmonnnbnaaaDoor.P
