-- slim
-- Written by wip/hprint.py (this session's program) through the kit's print program; hand contracts are marked 'by hand'.
import Derived.Test.YtbkgaplldfilnaaDoorAbb
import Derived.Test.YtbkgaplldfilnaaDoorRow
import Derived.Test.YtbkgaplldfilnaaDoorPx0
import Derived.Test.YtbkgaplldfilnaaDoorPx13
namespace Go.Proofs.YtbkgaplldfilnaaDoor.P
open Go.RowKit Go.Proofs.YtbkgaplldfilnaaDoorW.PrintWords Go.Proofs.YtbkgaplldfilnaaDoorW.PrintLast Go.Proofs.YtbkgaplldfilnaaDoorW.PrintMore
attribute [local go_sem] max2_int min2_int max_two min_two max_three min_three max_four min_four   -- for this text's walks alone
set_option linter.unusedVariables false
set_option linter.unusedSimpArgs false

theorem qy8g {p : Prop} (h : p := by (with_reducible repeat (first | refine blk_drewN ?_ _ | refine blk_drew ?_ | refine blk_alloc ?_ _)); exact BK265.out) : p := h
theorem qrsn {p : Prop} (h : p := by (with_reducible repeat (first | refine blk_drewN ?_ _ | refine blk_drew ?_ | refine blk_alloc ?_ _)); exact BK271.out) : p := h
theorem qlu2 {p : Prop} (h : p := by (with_reducible repeat (first | refine blk_drewN ?_ _ | refine blk_drew ?_ | refine blk_alloc ?_ _ | refine blk_far ?_ NB265_271.out _)); exact BK265.out) : p := h
theorem qefd {p : Prop} (h : p := by repeat (first | (with_reducible first | exact HB.out | apply below_alloc | apply pw_below_drewN | apply below_drew1 | refine below_set ?_ GE265.out) | exact HB.out)) : p := h
theorem qlxl {p : Prop} (h : p := by with_reducible repeat (first | (apply blk_far; case hp => assumption) | apply blk_set | refine blk_drewN ?_ _ | refine blk_drew ?_ | refine blk_alloc ?_ _ | exact BK265.out | exact BK271.out)) : p := h
theorem qtqh {p : Prop} (h : p := by repeat (first | (with_reducible first | exact HB.out | apply below_alloc | apply pw_below_drewN | apply below_drew1 | refine below_set ?_ GE265.out | refine below_set ?_ GE271.out) | exact HB.out)) : p := h
theorem qn46 {p : Prop} (h : p := by first | (simp only [putAll, Act.put, List.setIfInBounds_toArray, List.set_cons_zero, List.set_cons_succ]; done) | (simp only [putAll, Act.put, List.setIfInBounds_toArray, List.set_cons_zero, List.set_cons_succ]; rfl)) : p := h
theorem qqp3 {p : Prop} (h : p := by rw [hg]; exact (below_size qefd)) : p := h
theorem qvfd {p : Prop} (h : p := by (with_reducible repeat (first | refine blk_drewN ?_ _ | refine blk_drew ?_ | refine blk_alloc ?_ _)); exact put5_0_5 qy8g) : p := h
theorem qpao {p : Prop} (h : p := by (with_reducible repeat (first | refine blk_drewN ?_ _ | refine blk_drew ?_ | refine blk_alloc ?_ _)); exact put5_0_5 qrsn) : p := h
theorem qkam {p : Prop} (h : p := by rw [hg]; exact Nat.ne_of_gt (blk_lt (g := gb265) (o := .cells #[.int .i64 0, .int .u64 0, .int .u32 0, .int .u64 0, .int .u32 0] 35 (0, 0)) qy8g)) : p := h
theorem q571 {p : Prop} (h : p := by rw [hg]; exact Nat.ne_of_lt (blk_lt (g := gb265) (o := .cells #[.int .i64 0, .int .u64 0, .int .u32 0, .int .u64 0, .int .u32 0] 35 (0, 0)) qy8g)) : p := h
/-! ### gangwayref05_Parse: function 37 -/
def gangwayref05_Parse.j0 : Nat → Bool → Int → Int → Int → Int → Int → Option (Int × Int × Int × Int × Int × Int)
 | 0, _, _, _, _, _, _ => none
 | k + 1, x35, x272000, x272001, x272002, x272003, x272004 => if x35 = true then (some (0, 0, 0, 0, 0, 51)) else (some (x272000, x272001, x272002, x272003, x272004, 0))
def gangwayref05_Parse.f (k : Nat) (a0 : ByteArray) : Option (Int × Int × Int × Int × Int × Int) := if (a0.size : Int) < 28 then (some (0, 0, 0, 0, 0, 50)) else (if 6 ≤ 8 then (if 8 ≤ (a0.size : Int) then ((gangwayref01_Num.f k (a0.extract 6 8)).bind fun t266 => (if 8 ≤ 14 then (if 14 ≤ (a0.size : Int) then ((gangwayref01_Num.f k (a0.extract 8 14)).bind fun t267 => (if 14 ≤ 18 then (if 18 ≤ (a0.size : Int) then ((gangwayref01_Num.f k (a0.extract 14 18)).bind fun t268 => (if 18 ≤ 24 then (if 24 ≤ (a0.size : Int) then ((gangwayref01_Num.f k (a0.extract 18 24)).bind fun t269 => (if 24 ≤ 28 then (if 28 ≤ (a0.size : Int) then ((gangwayref01_Num.f k (a0.extract 24 28)).bind fun t270 => (if 0 ≤ 6 then (if 6 ≤ (a0.size : Int) then (if (a0.extract 0 6).toList = ([0, 1, 8, 0, 6, 4] : List UInt8) then ((gangwayref05_Check.f (wrap64 (t266)) t267 ((t268) % 4294967296) t269 ((t270) % 4294967296)).bind fun t272 => (gangwayref05_Parse.j0 k (t272 != 0) (wrap64 (t266)) t267 ((t268) % 4294967296) t269 ((t270) % 4294967296))) else (gangwayref05_Parse.j0 k true (wrap64 (t266)) t267 ((t268) % 4294967296) t269 ((t270) % 4294967296))) else (none)) else (none))) else (none)) else (none))) else (none)) else (none))) else (none)) else (none))) else (none)) else (none))) else (none)) else (none))
theorem gangwayref05_Parse.mono_l : ∀ k, (∀ y0 y1 y2 y3 y4 y5, LeO (gangwayref05_Parse.j0 k y0 y1 y2 y3 y4 y5) (gangwayref05_Parse.j0 (k + 1) y0 y1 y2 y3 y4 y5))
 | 0 => fun _ _ _ _ _ _ r h => by simp [gangwayref05_Parse.j0] at h
 | k + 1 => by
  have ih0 := gangwayref05_Parse.mono_l k
  ·intro y0 y1 y2 y3 y4 y5
   unfold gangwayref05_Parse.j0
   repeat' first
   | (with_reducible exact ih0 _ _ _ _ _ _)
   | (with_reducible exact gangwayref01_Num.mono _ _)
   | (with_reducible exact LeO.refl _)
   | (with_reducible exact LeO.none _)
   | (with_reducible refine LeO.ite ?_ ?_)
   | (with_reducible refine LeO.bind ?_ (fun _ => ?_))
   | exact ih0 _ _ _ _ _ _
   | exact gangwayref01_Num.mono _ _
   | exact LeO.none _
   | refine LeO.ite ?_ ?_
   | refine LeO.bind ?_ (fun _ => ?_)
theorem gangwayref05_Parse.mono : ∀ a0 k, LeO (gangwayref05_Parse.f k a0) (gangwayref05_Parse.f (k + 1) a0) := by
 intro a0 k
 have ih0 := gangwayref05_Parse.mono_l k
 unfold gangwayref05_Parse.f
 repeat' first
   | (with_reducible exact ih0 _ _ _ _ _ _)
   | (with_reducible exact gangwayref01_Num.mono _ _)
   | (with_reducible exact LeO.refl _)
   | (with_reducible exact LeO.none _)
   | (with_reducible refine LeO.ite ?_ ?_)
   | (with_reducible refine LeO.bind ?_ (fun _ => ?_))
   | exact ih0 _ _ _ _ _ _
   | exact gangwayref01_Num.mono _ _
   | exact LeO.none _
   | refine LeO.ite ?_ ?_
   | refine LeO.bind ?_ (fun _ => ?_)
def gangwayref05_Parse.T3 : Bool × List (List Nat × List Nat) := (true, [([], []), ([0], [0]), ([1], [1]), ([2], [2]), ([], []), ([4], [4]), ([5, 2], [5]), ([], []), ([7], [7]), ([8, 6], [8]), ([9], [9]), ([], []), ([11], [11]), ([12, 9], [12]), ([], []), ([14], [14]), ([15, 13], [15]), ([16], [16]), ([3, 6, 10, 13, 17], [3, 6, 10, 13, 17]), ([], []), ([19, 18, 16, 0, 1, 2, 3, 4, 5, 6, 7, 8, 9, 10, 11, 12, 13, 14, 15, 16, 17, 18, 19], [18, 19])])
def gangwayref05_Parse.B3 : List Nat := [0, 1, 3, 7, 0, 16, 55, 0, 128, 503, 1015, 0, 2048, 7159, 0, 16384, 64503, 130039, 262143, 0, 1048575]
theorem gangwayref05_Parse.tab3 : rtab .any (opsOf Tryd.f37 3) = gangwayref05_Parse.T3 := by kernel_rfl
theorem gangwayref05_Parse.bits3 : waitsOk gangwayref05_Parse.T3.2 gangwayref05_Parse.B3 = true := by kernel_rfl
theorem z23_0 {p : Prop} (h : p := by
 simp only [putAll, Act.put, List.setIfInBounds_toArray, List.set_cons_zero, List.set_cons_succ]
 rfl) : p := h
theorem z23_1 {p : Prop} (h : p := by
 show Act.put _ (some 4) _ = _
 simp only [Act.put, List.setIfInBounds_toArray, List.set_cons_zero, List.set_cons_succ, i64_w, i32_w]
 rfl) : p := h
theorem z23_2 {p : Prop} (h : p := by
 show Act.put _ (some 11) _ = _
 simp only [Act.put, List.setIfInBounds_toArray, List.set_cons_zero, List.set_cons_succ, i64_w, i32_w]
 rfl) : p := h
theorem z23_3 {p : Prop} (h : p := by
 show Act.put _ (some 15) _ = _
 simp only [Act.put, List.setIfInBounds_toArray, List.set_cons_zero, List.set_cons_succ, i64_w, i32_w]
 rfl) : p := h
theorem z23_4 {p : Prop} (h : p := by
 show Act.put _ (some 18) _ = _
 simp only [Act.put, List.setIfInBounds_toArray, List.set_cons_zero, List.set_cons_succ, i64_w, i32_w]
 rfl) : p := h
theorem z23_5 {p : Prop} (h : p := by
 show Act.put _ (some 22) _ = _
 simp only [Act.put, List.setIfInBounds_toArray, List.set_cons_zero, List.set_cons_succ, i64_w, i32_w]
 rfl) : p := h
theorem z23_6 {p : Prop} (h : p := by
 show Act.put _ (some 25) _ = _
 simp only [Act.put, List.setIfInBounds_toArray, List.set_cons_zero, List.set_cons_succ, i64_w, i32_w]
 rfl) : p := h
set_option maxHeartbeats 8000000 in
set_option maxRecDepth 100000 in
theorem gangwayref05_Parse.calls (k : Nat) (a0 : ByteArray) (r1 : Int) (r2 : Int) (r3 : Int) (r4 : Int) (r5 : Int) (r6 : Int) (w : World) (h : gangwayref05_Parse.f k a0 = some (r1, r2, r3, r4, r5, r6)) :
  Calls Tryd.prog 37 #[.string a0] w fun e w' => e = .returned (.tuple #[.agg #[.int .i64 r1, .int .u64 r2, .int .u32 r3, .int .u64 r4, .int .u32 r5], .int .i64 r6]) ∧ Below w.heap.size w w' := by
 have hu35 := Tryd.underlying35
 have HB := Aside0.mk (Below.refl w.heap.size w)
 have H := h
 unfold gangwayref05_Parse.f at H
 clear h
 by_cases c2 : (a0.size : Int) < 28
 ·rw [if_pos c2] at H
  have c2b0 : decide ((a0.size : Int) < 28) = true := decide_eq_true c2
  have c2b1 : decide (a0.size < 28) = true := decide_eq_true q1jy
  clear c2
  simp only [Option.some.injEq, Prod.mk.injEq] at H
  obtain ⟨rfl, rfl, rfl, rfl, rfl, rfl⟩ := H
  go_enter Tryd.func37, Tryd.ntmps37
  go_wp2_with (first | ((with_reducible refine gate_st (ty := 35) rfl ?_); refine storeC5 rfl rfl rfl rfl rfl qlxl qr2c qg3m rfl ?_) | ((with_reducible refine gate_ld (ty := 35) rfl ?_); (try (with_reducible refine gate_gd rfl ?_; refine gate_guard q8ju ?_; dsimp only)); refine load_st rfl rfl rfl qlxl qr2c Tryd.underlying35 rfl qg3m ?_; (try simp only [Act.put, List.setIfInBounds_toArray, List.set_cons_zero, List.set_cons_succ])) | ((with_reducible refine gate_dst (N := 2) rfl ?_); refine box_event qgcr (N := 2) qgcr (cs := #[.int .i64 0, .int .u64 0, .int .u32 0, .int .u64 0, .int .u32 0]) (t := 35) qlto ?_; intro gb265 hg w3 hbox hb; have BK265 := Aside0.mk (hbox); have GE265 := Aside0.mk ((qisx : w.heap.size ≤ gb265)); replace HB := Aside0.mk (below_step qpag hb); clear hb hbox hg; obtain ⟨hcz4_0, hcz4_1, hcz4_2, hcz4_3, hcz4_4⟩ := cells5 BK265.out; obtain ⟨hfz4_0, hfz4_1, hfz4_2, hfz4_3, hfz4_4⟩ := frozen5 BK265.out))
  refine bodyPost_ret (results_ct rfl _ _ gb265 35 #[.int .i64 0, .int .u64 0, .int .u32 0, .int .u64 0, .int .u32 0] (0, 0) _ rfl qvfd Tryd.underlying35 rfl qg3m) rfl ?_
  exact ⟨qxu5, qefd⟩
 ·rw [if_neg c2] at H
  have c2b0 : decide ((a0.size : Int) < 28) = false := decide_eq_false c2
  have c2b1 : decide (a0.size < 28) = false := decide_eq_false q1jy
  clear c2
  by_cases c5 : 6 ≤ 8
  ·rw [if_pos c5] at H
   have c5b0 := eq_true c5
   have c5b1 : decide (6 ≤ 8) = true := decide_eq_true c5
   clear c5
   by_cases c6 : 8 ≤ (a0.size : Int)
   ·rw [if_pos c6] at H
    have c6b0 := eq_true c6
    have c6b1 : decide (8 ≤ (a0.size : Int)) = true := decide_eq_true c6
    clear c6
    replace H := Option.bind_eq_some_iff.mp H
    obtain ⟨t266, A70, H⟩ := H
    try dsimp only at H
    have A7 := Aside0.mk A70
    clear A70
    by_cases c8 : 8 ≤ 14
    ·rw [if_pos c8] at H
     have c8b0 := eq_true c8
     have c8b1 : decide (8 ≤ 14) = true := decide_eq_true c8
     clear c8
     by_cases c9 : 14 ≤ (a0.size : Int)
     ·rw [if_pos c9] at H
      have c9b0 := eq_true c9
      have c9b1 : decide (14 ≤ (a0.size : Int)) = true := decide_eq_true c9
      clear c9
      replace H := Option.bind_eq_some_iff.mp H
      obtain ⟨t267, A100, H⟩ := H
      try dsimp only at H
      have A10 := Aside0.mk A100
      clear A100
      by_cases c11 : 14 ≤ 18
      ·rw [if_pos c11] at H
       have c11b0 := eq_true c11
       have c11b1 : decide (14 ≤ 18) = true := decide_eq_true c11
       clear c11
       by_cases c12 : 18 ≤ (a0.size : Int)
       ·rw [if_pos c12] at H
        have c12b0 := eq_true c12
        have c12b1 : decide (18 ≤ (a0.size : Int)) = true := decide_eq_true c12
        clear c12
        replace H := Option.bind_eq_some_iff.mp H
        obtain ⟨t268, A130, H⟩ := H
        try dsimp only at H
        have A13 := Aside0.mk A130
        clear A130
        by_cases c14 : 18 ≤ 24
        ·rw [if_pos c14] at H
         have c14b0 := eq_true c14
         have c14b1 : decide (18 ≤ 24) = true := decide_eq_true c14
         clear c14
         by_cases c15 : 24 ≤ (a0.size : Int)
         ·rw [if_pos c15] at H
          have c15b0 := eq_true c15
          have c15b1 : decide (24 ≤ (a0.size : Int)) = true := decide_eq_true c15
          clear c15
          replace H := Option.bind_eq_some_iff.mp H
          obtain ⟨t269, A160, H⟩ := H
          try dsimp only at H
          have A16 := Aside0.mk A160
          clear A160
          by_cases c17 : 24 ≤ 28
          ·rw [if_pos c17] at H
           have c17b0 := eq_true c17
           have c17b1 : decide (24 ≤ 28) = true := decide_eq_true c17
           clear c17
           by_cases c18 : 28 ≤ (a0.size : Int)
           ·rw [if_pos c18] at H
            have c18b0 := eq_true c18
            have c18b1 : decide (28 ≤ (a0.size : Int)) = true := decide_eq_true c18
            clear c18
            replace H := Option.bind_eq_some_iff.mp H
            obtain ⟨t270, A190, H⟩ := H
            try dsimp only at H
            have A19 := Aside0.mk A190
            clear A190
            have HC20 := Aside0.mk H
            clear H
            go_enter Tryd.func37, Tryd.ntmps37
            try go_wp2_with (first | ((with_reducible refine gate_st (ty := 35) rfl ?_); refine storeC5 rfl rfl rfl rfl rfl qlxl qr2c qg3m rfl ?_) | ((with_reducible refine gate_ld (ty := 35) rfl ?_); (try (with_reducible refine gate_gd rfl ?_; refine gate_guard q8ju ?_; dsimp only)); refine load_st rfl rfl rfl qlxl qr2c Tryd.underlying35 rfl qg3m ?_; (try simp only [Act.put, List.setIfInBounds_toArray, List.set_cons_zero, List.set_cons_succ])) | ((with_reducible refine gate_dst (N := 2) rfl ?_); refine box_event qgcr (N := 2) qgcr (cs := #[.int .i64 0, .int .u64 0, .int .u32 0, .int .u64 0, .int .u32 0]) (t := 35) qlto ?_; intro gb265 hg w21 hbox hb; have BK265 := Aside0.mk (hbox); have GE265 := Aside0.mk ((qisx : w.heap.size ≤ gb265)); replace HB := Aside0.mk (below_step qpag hb); clear hb hbox hg))
            replace BK265 := Aside0.mk (blk_drew BK265.out)
            replace HB := Aside0.mk (below_drew1 HB.out)
            refine start_ (n := 21) (S := fun w' => True) (ds := []) (ba 21 0) qg3m rfl rfl trivial (fun hHeld => ?_); refine with_tabW gangwayref05_Parse.tab3 gangwayref05_Parse.bits3 (fun HT_ HW_ => ?_)
            generalize w21.drew = w22 at BK265 HB hHeld ⊢
            refine pu_139 (i := 0) (N := some 9) (ba 21 1) ?_
            refine pu_139 (i := 1) (N := some 10) (ba 21 3) ?_
            refine pu_139 (i := 4) (N := some 13) (ba 21 19) ?_
            refine pu_139 (i := 5) (N := some 14) (ba 21 51) ?_
            refine pu_139 (i := 7) (N := some 16) (ba 21 179) ?_
            refine pu_139 (i := 8) (N := some 17) (ba 21 435) ?_
            refine pu_139 (i := 11) (N := some 20) (ba 21 2483) ?_
            refine pu_139 (i := 12) (N := some 21) (ba 21 6579) ?_
            refine pu_139 (i := 14) (N := some 23) (ba 21 22963) ?_
            refine pu_139 (i := 15) (N := some 24) (ba 21 55731) ?_
            refine join_ (σ := Nat) 1 (ba 21 1048575) (fun s_ => [(11, .int .u64 t266), (15, .int .u64 t267), (18, .int .u64 t268), (22, .int .u64 t269), (25, .int .u64 t270), (4, .pointer (some ⟨s_, 0, none⟩)), (12, .int .i64 (wrap64 (t266))), (19, .int .u32 ((t268) % 4294967296)), (26, .int .u32 ((t270) % 4294967296)), (27, .agg #[.int .i64 (wrap64 (t266)), .int .u64 t267, .int .u32 ((t268) % 4294967296), .int .u64 t269, .int .u32 ((t270) % 4294967296)])]) (fun s_ w' => (w'.heap[gb265]? = some (.cells #[.int .i64 0, .int .u64 0, .int .u32 0, .int .u64 0, .int .u32 0] 35 (0, 0))) ∧ (w'.heap[s_]? = some (.cells #[.int .i64 0, .int .u64 0, .int .u32 0, .int .u64 0, .int .u32 0] 35 (0, 0))) ∧ (w.heap.size ≤ s_) ∧ (w.heap.size ≤ s_) ∧ (gb265 ≠ s_) ∧ (s_ ≠ gb265) ∧ (Below w.heap.size w w')) ?_ ?_
            rotate_left
            ·intro hJ2_6_9_13_16_19
             refine join_ (σ := Unit) 2 (ba 21 524287) (fun s_ => [(11, .int .u64 t266), (15, .int .u64 t267), (18, .int .u64 t268), (22, .int .u64 t269), (25, .int .u64 t270), (12, .int .i64 (wrap64 (t266))), (19, .int .u32 ((t268) % 4294967296)), (26, .int .u32 ((t270) % 4294967296)), (27, .agg #[.int .i64 (wrap64 (t266)), .int .u64 t267, .int .u32 ((t268) % 4294967296), .int .u64 t269, .int .u32 ((t270) % 4294967296)])]) (fun s_ w' => (w'.heap[gb265]? = some (.cells #[.int .i64 0, .int .u64 0, .int .u32 0, .int .u64 0, .int .u32 0] 35 (0, 0))) ∧ (Below w.heap.size w w')) ?_ ?_
             rotate_left
             ·intro hJ2_6_9_13_16
              refine join_ (σ := Nat) 4 (ba 21 589823) (fun s_ => [(11, .int .u64 t266), (15, .int .u64 t267), (18, .int .u64 t268), (22, .int .u64 t269), (4, .pointer (some ⟨s_, 0, none⟩)), (12, .int .i64 (wrap64 (t266))), (19, .int .u32 ((t268) % 4294967296))]) (fun s_ w' => (w'.heap[gb265]? = some (.cells #[.int .i64 0, .int .u64 0, .int .u32 0, .int .u64 0, .int .u32 0] 35 (0, 0))) ∧ (w'.heap[s_]? = some (.cells #[.int .i64 0, .int .u64 0, .int .u32 0, .int .u64 0, .int .u32 0] 35 (0, 0))) ∧ (w.heap.size ≤ s_) ∧ (w.heap.size ≤ s_) ∧ (gb265 ≠ s_) ∧ (s_ ≠ gb265) ∧ (Below w.heap.size w w')) ?_ ?_
              rotate_left
              ·intro hJ2_6_9_13_19
               refine join_ (σ := Unit) 5 (ba 21 65535) (fun s_ => [(11, .int .u64 t266), (15, .int .u64 t267), (18, .int .u64 t268), (22, .int .u64 t269), (12, .int .i64 (wrap64 (t266))), (19, .int .u32 ((t268) % 4294967296))]) (fun s_ w' => (w'.heap[gb265]? = some (.cells #[.int .i64 0, .int .u64 0, .int .u32 0, .int .u64 0, .int .u32 0] 35 (0, 0))) ∧ (Below w.heap.size w w')) ?_ ?_
               rotate_left
               ·intro hJ2_6_9_13
                refine join_ (σ := Nat) 5 (ba 21 581631) (fun s_ => [(11, .int .u64 t266), (15, .int .u64 t267), (18, .int .u64 t268), (4, .pointer (some ⟨s_, 0, none⟩)), (12, .int .i64 (wrap64 (t266))), (19, .int .u32 ((t268) % 4294967296))]) (fun s_ w' => (w'.heap[gb265]? = some (.cells #[.int .i64 0, .int .u64 0, .int .u32 0, .int .u64 0, .int .u32 0] 35 (0, 0))) ∧ (w'.heap[s_]? = some (.cells #[.int .i64 0, .int .u64 0, .int .u32 0, .int .u64 0, .int .u32 0] 35 (0, 0))) ∧ (w.heap.size ≤ s_) ∧ (w.heap.size ≤ s_) ∧ (gb265 ≠ s_) ∧ (s_ ≠ gb265) ∧ (Below w.heap.size w w')) ?_ ?_
                rotate_left
                ·intro hJ2_6_9_19
                 refine join_ (σ := Unit) 6 (ba 21 57343) (fun s_ => [(11, .int .u64 t266), (15, .int .u64 t267), (18, .int .u64 t268), (12, .int .i64 (wrap64 (t266))), (19, .int .u32 ((t268) % 4294967296))]) (fun s_ w' => (w'.heap[gb265]? = some (.cells #[.int .i64 0, .int .u64 0, .int .u32 0, .int .u64 0, .int .u32 0] 35 (0, 0))) ∧ (Below w.heap.size w w')) ?_ ?_
                 rotate_left
                 ·intro hJ2_6_9
                  refine join_ (σ := Nat) 7 (ba 21 580095) (fun s_ => [(11, .int .u64 t266), (15, .int .u64 t267), (4, .pointer (some ⟨s_, 0, none⟩)), (12, .int .i64 (wrap64 (t266)))]) (fun s_ w' => (w'.heap[gb265]? = some (.cells #[.int .i64 0, .int .u64 0, .int .u32 0, .int .u64 0, .int .u32 0] 35 (0, 0))) ∧ (w'.heap[s_]? = some (.cells #[.int .i64 0, .int .u64 0, .int .u32 0, .int .u64 0, .int .u32 0] 35 (0, 0))) ∧ (w.heap.size ≤ s_) ∧ (w.heap.size ≤ s_) ∧ (gb265 ≠ s_) ∧ (s_ ≠ gb265) ∧ (Below w.heap.size w w')) ?_ ?_
                  rotate_left
                  ·intro hJ2_6_19
                   refine join_ (σ := Unit) 8 (ba 21 55807) (fun s_ => [(11, .int .u64 t266), (15, .int .u64 t267), (12, .int .i64 (wrap64 (t266)))]) (fun s_ w' => (w'.heap[gb265]? = some (.cells #[.int .i64 0, .int .u64 0, .int .u32 0, .int .u64 0, .int .u32 0] 35 (0, 0))) ∧ (Below w.heap.size w w')) ?_ ?_
                   rotate_left
                   ·intro hJ2_6
                    refine join_ (σ := Nat) 8 (ba 21 580031) (fun s_ => [(11, .int .u64 t266), (4, .pointer (some ⟨s_, 0, none⟩)), (12, .int .i64 (wrap64 (t266)))]) (fun s_ w' => (w'.heap[gb265]? = some (.cells #[.int .i64 0, .int .u64 0, .int .u32 0, .int .u64 0, .int .u32 0] 35 (0, 0))) ∧ (w'.heap[s_]? = some (.cells #[.int .i64 0, .int .u64 0, .int .u32 0, .int .u64 0, .int .u32 0] 35 (0, 0))) ∧ (w.heap.size ≤ s_) ∧ (w.heap.size ≤ s_) ∧ (gb265 ≠ s_) ∧ (s_ ≠ gb265) ∧ (Below w.heap.size w w')) ?_ ?_
                    rotate_left
                    ·intro hJ2_19
                     refine join_ (σ := Unit) 9 (ba 21 55743) (fun s_ => [(11, .int .u64 t266), (12, .int .i64 (wrap64 (t266)))]) (fun s_ w' => (w'.heap[gb265]? = some (.cells #[.int .i64 0, .int .u64 0, .int .u32 0, .int .u64 0, .int .u32 0] 35 (0, 0))) ∧ (Below w.heap.size w w')) ?_ ?_
                     rotate_left
                     ·intro hJ2
                      refine join_ (σ := Nat) 10 (ba 21 580019) (fun s_ => [(4, .pointer (some ⟨s_, 0, none⟩))]) (fun s_ w' => (w'.heap[gb265]? = some (.cells #[.int .i64 0, .int .u64 0, .int .u32 0, .int .u64 0, .int .u32 0] 35 (0, 0))) ∧ (w'.heap[s_]? = some (.cells #[.int .i64 0, .int .u64 0, .int .u32 0, .int .u64 0, .int .u32 0] 35 (0, 0))) ∧ (w.heap.size ≤ s_) ∧ (w.heap.size ≤ s_) ∧ (gb265 ≠ s_) ∧ (s_ ≠ gb265) ∧ (Below w.heap.size w w')) ?_ ?_
                      rotate_left
                      ·intro hJ19
                       refine two_ (i := 2) (j := 19) (Ni := some 11) (Nj := some 4) (ba 21 55735) (ba 21 580019) rfl rfl rfl rfl (two_of HT_.out qg3m) qomw qomw (fun K hK => ?_) (fun K hK => ?_)
                       ·skip
                        refine goes_ Tryd.func40 qg3m rfl #[.string (a0.extract 6 8)] qlo1 rfl rfl qraq ?_
                        with_reducible refine (gangwayref01_Num.calls k (a0.extract 6 8) t266 _ A7.out).mono ?_
                        rintro e w' ⟨rfl, ⟨nd, rfl⟩⟩
                        refine ⟨_, rfl, ?_⟩
                        refine hK.out _ _ trivial (fun hHeld => ?_)
                        clear hK K
                        refine norm_ (a' := ?_) ?_ ?_
                        rotate_left
                        ·exact z23_2
                        refine pu_139 (i := 3) (N := some 12) (ba 21 55743) ?_
                        exact norm_ qn46 (hJ2 () _ ⟨qy8g, qefd⟩)
                       ·skip
                        refine box_step ?hg (N := 4) ?hd (cs := #[.int .i64 0, .int .u64 0, .int .u32 0, .int .u64 0, .int .u32 0]) (t := 35) ?hr ?_; (case hd => rfl); (case hg => rfl); (case hr => first | (go_simp; done) | (go_simp; rfl))
                        intro gb271 hg w23 hbox hb
                        have BK271 := Aside0.mk (hbox)
                        have GW271 := Aside0.mk ((qqp3 : w.heap.size ≤ gb271))
                        have GE271 := Aside0.mk ((qqp3 : w.heap.size ≤ gb271))
                        have NB265_271 := Aside0.mk ((q571 : gb265 ≠ gb271))
                        have NB271_265 := Aside0.mk ((qkam : gb271 ≠ gb265))
                        replace BK265 := Aside0.mk (blk_below (g := gb265) (o := .cells #[.int .i64 0, .int .u64 0, .int .u32 0, .int .u64 0, .int .u32 0] 35 (0, 0)) qy8g hb)
                        replace HB := Aside0.mk (below_step qefd hb)
                        clear hb hbox hg
                        refine hK.out _ _ trivial (fun hHeld => ?_)
                        clear hK K
                        refine norm_ (a' := ?_) ?_ ?_
                        rotate_left
                        ·exact z23_1
                        exact norm_ qn46 (hJ19 (gb271) _ ⟨qy8g, qrsn, GW271.out, GE271.out, NB265_271.out, NB271_265.out, qtqh⟩)
                      ·skip
                       rintro gb271 w24 ⟨h0_, h1_, h2_, h3_, h4_, h5_, h6_⟩
                       have n0_ : Aside0 (w24.heap[gb265]? = some (.cells #[.int .i64 0, .int .u64 0, .int .u32 0, .int .u64 0, .int .u32 0] 35 (0, 0))) := ⟨h0_⟩
                       have n1_ : Aside0 (w24.heap[gb271]? = some (.cells #[.int .i64 0, .int .u64 0, .int .u32 0, .int .u64 0, .int .u32 0] 35 (0, 0))) := ⟨h1_⟩
                       have n2_ : Aside0 (w.heap.size ≤ gb271) := ⟨h2_⟩
                       have n3_ : Aside0 (w.heap.size ≤ gb271) := ⟨h3_⟩
                       have n4_ : Aside0 (gb265 ≠ gb271) := ⟨h4_⟩
                       have n5_ : Aside0 (gb271 ≠ gb265) := ⟨h5_⟩
                       have n6_ : Aside0 (Below w.heap.size w w24) := ⟨h6_⟩
                       clear BK265
                       clear HB
                       clear h0_ h1_ h2_ h3_ h4_ h5_ h6_
                       have BK265 := n0_
                       have BK271 := n1_
                       have GW271 := n2_
                       have GE271 := n3_
                       have NB265_271 := n4_
                       have NB271_265 := n5_
                       have HB := n6_
                       clear n0_ n1_ n2_ n3_ n4_ n5_ n6_
                       have hHeld := trivial
                       refine norm_ (a' := ?_) ?_ ?_
                       rotate_left
                       ·exact z23_0
                       refine one_ (i := 2) (N := some 11) (ba 21 580023) rfl rfl (one_of HT_.out qg3m) qomw (fun K hK => ?_)
                       refine goes_ Tryd.func40 qg3m rfl #[.string (a0.extract 6 8)] qlo1 rfl rfl qraq ?_
                       with_reducible refine (gangwayref01_Num.calls k (a0.extract 6 8) t266 _ A7.out).mono ?_
                       rintro e w' ⟨rfl, ⟨nd, rfl⟩⟩
                       refine ⟨_, rfl, ?_⟩
                       refine hK.out _ _ trivial (fun hHeld => ?_)
                       clear hK K
                       refine norm_ (a' := ?_) ?_ ?_
                       rotate_left
                       ·exact z23_2
                       refine pu_139 (i := 3) (N := some 12) (ba 21 580031) ?_
                       exact norm_ qn46 (hJ2_19 (gb271) _ ⟨qy8g, qrsn, GW271.out, GE271.out, NB265_271.out, NB271_265.out, qtqh⟩)
                     ·skip
                      rintro _ w23 ⟨h0_, h1_⟩
                      have n0_ : Aside0 (w23.heap[gb265]? = some (.cells #[.int .i64 0, .int .u64 0, .int .u32 0, .int .u64 0, .int .u32 0] 35 (0, 0))) := ⟨h0_⟩
                      have n1_ : Aside0 (Below w.heap.size w w23) := ⟨h1_⟩
                      clear BK265
                      clear HB
                      clear h0_ h1_
                      have BK265 := n0_
                      have HB := n1_
                      clear n0_ n1_
                      have hHeld := trivial
                      refine norm_ (a' := ?_) ?_ ?_
                      rotate_left
                      ·exact z23_0
                      refine two_ (i := 6) (j := 19) (Ni := some 15) (Nj := some 4) (ba 21 55807) (ba 21 580031) rfl rfl rfl rfl (two_of HT_.out qg3m) qomw qomw (fun K hK => ?_) (fun K hK => ?_)
                      ·skip
                       refine goes_ Tryd.func40 qg3m rfl #[.string (a0.extract 8 14)] qlo1 rfl rfl qraq ?_
                       with_reducible refine (gangwayref01_Num.calls k (a0.extract 8 14) t267 _ A10.out).mono ?_
                       rintro e w' ⟨rfl, ⟨nd, rfl⟩⟩
                       refine ⟨_, rfl, ?_⟩
                       refine hK.out _ _ trivial (fun hHeld => ?_)
                       clear hK K
                       refine norm_ (a' := ?_) ?_ ?_
                       rotate_left
                       ·exact z23_3
                       exact norm_ qn46 (hJ2_6 () _ ⟨qy8g, qefd⟩)
                      ·skip
                       refine box_step ?hg (N := 4) ?hd (cs := #[.int .i64 0, .int .u64 0, .int .u32 0, .int .u64 0, .int .u32 0]) (t := 35) ?hr ?_; (case hd => rfl); (case hg => rfl); (case hr => first | (go_simp; done) | (go_simp; rfl))
                       intro gb271 hg w24 hbox hb
                       have BK271 := Aside0.mk (hbox)
                       have GW271 := Aside0.mk ((qqp3 : w.heap.size ≤ gb271))
                       have GE271 := Aside0.mk ((qqp3 : w.heap.size ≤ gb271))
                       have NB265_271 := Aside0.mk ((q571 : gb265 ≠ gb271))
                       have NB271_265 := Aside0.mk ((qkam : gb271 ≠ gb265))
                       replace BK265 := Aside0.mk (blk_below (g := gb265) (o := .cells #[.int .i64 0, .int .u64 0, .int .u32 0, .int .u64 0, .int .u32 0] 35 (0, 0)) qy8g hb)
                       replace HB := Aside0.mk (below_step qefd hb)
                       clear hb hbox hg
                       refine hK.out _ _ trivial (fun hHeld => ?_)
                       clear hK K
                       refine norm_ (a' := ?_) ?_ ?_
                       rotate_left
                       ·exact z23_1
                       exact norm_ qn46 (hJ2_19 (gb271) _ ⟨qy8g, qrsn, GW271.out, GE271.out, NB265_271.out, NB271_265.out, qtqh⟩)
                    ·skip
                     rintro gb271 w24 ⟨h0_, h1_, h2_, h3_, h4_, h5_, h6_⟩
                     have n0_ : Aside0 (w24.heap[gb265]? = some (.cells #[.int .i64 0, .int .u64 0, .int .u32 0, .int .u64 0, .int .u32 0] 35 (0, 0))) := ⟨h0_⟩
                     have n1_ : Aside0 (w24.heap[gb271]? = some (.cells #[.int .i64 0, .int .u64 0, .int .u32 0, .int .u64 0, .int .u32 0] 35 (0, 0))) := ⟨h1_⟩
                     have n2_ : Aside0 (w.heap.size ≤ gb271) := ⟨h2_⟩
                     have n3_ : Aside0 (w.heap.size ≤ gb271) := ⟨h3_⟩
                     have n4_ : Aside0 (gb265 ≠ gb271) := ⟨h4_⟩
                     have n5_ : Aside0 (gb271 ≠ gb265) := ⟨h5_⟩
                     have n6_ : Aside0 (Below w.heap.size w w24) := ⟨h6_⟩
                     clear BK265
                     clear HB
                     clear h0_ h1_ h2_ h3_ h4_ h5_ h6_
                     have BK265 := n0_
                     have BK271 := n1_
                     have GW271 := n2_
                     have GE271 := n3_
                     have NB265_271 := n4_
                     have NB271_265 := n5_
                     have HB := n6_
                     clear n0_ n1_ n2_ n3_ n4_ n5_ n6_
                     have hHeld := trivial
                     refine norm_ (a' := ?_) ?_ ?_
                     rotate_left
                     ·exact z23_0
                     refine one_ (i := 6) (N := some 15) (ba 21 580095) rfl rfl (one_of HT_.out qg3m) qomw (fun K hK => ?_)
                     refine goes_ Tryd.func40 qg3m rfl #[.string (a0.extract 8 14)] qlo1 rfl rfl qraq ?_
                     with_reducible refine (gangwayref01_Num.calls k (a0.extract 8 14) t267 _ A10.out).mono ?_
                     rintro e w' ⟨rfl, ⟨nd, rfl⟩⟩
                     refine ⟨_, rfl, ?_⟩
                     refine hK.out _ _ trivial (fun hHeld => ?_)
                     clear hK K
                     refine norm_ (a' := ?_) ?_ ?_
                     rotate_left
                     ·exact z23_3
                     exact norm_ qn46 (hJ2_6_19 (gb271) _ ⟨qy8g, qrsn, GW271.out, GE271.out, NB265_271.out, NB271_265.out, qtqh⟩)
                   ·skip
                    rintro _ w23 ⟨h0_, h1_⟩
                    have n0_ : Aside0 (w23.heap[gb265]? = some (.cells #[.int .i64 0, .int .u64 0, .int .u32 0, .int .u64 0, .int .u32 0] 35 (0, 0))) := ⟨h0_⟩
                    have n1_ : Aside0 (Below w.heap.size w w23) := ⟨h1_⟩
                    clear BK265
                    clear HB
                    clear h0_ h1_
                    have BK265 := n0_
                    have HB := n1_
                    clear n0_ n1_
                    have hHeld := trivial
                    refine norm_ (a' := ?_) ?_ ?_
                    rotate_left
                    ·exact z23_0
                    refine two_ (i := 9) (j := 19) (Ni := some 18) (Nj := some 4) (ba 21 56319) (ba 21 580095) rfl rfl rfl rfl (two_of HT_.out qg3m) qomw qomw (fun K hK => ?_) (fun K hK => ?_)
                    ·skip
                     refine goes_ Tryd.func40 qg3m rfl #[.string (a0.extract 14 18)] qlo1 rfl rfl qraq ?_
                     with_reducible refine (gangwayref01_Num.calls k (a0.extract 14 18) t268 _ A13.out).mono ?_
                     rintro e w' ⟨rfl, ⟨nd, rfl⟩⟩
                     refine ⟨_, rfl, ?_⟩
                     refine hK.out _ _ trivial (fun hHeld => ?_)
                     clear hK K
                     refine norm_ (a' := ?_) ?_ ?_
                     rotate_left
                     ·exact z23_4
                     refine pu_139 (i := 10) (N := some 19) (ba 21 57343) ?_
                     exact norm_ qn46 (hJ2_6_9 () _ ⟨qy8g, qefd⟩)
                    ·skip
                     refine box_step ?hg (N := 4) ?hd (cs := #[.int .i64 0, .int .u64 0, .int .u32 0, .int .u64 0, .int .u32 0]) (t := 35) ?hr ?_; (case hd => rfl); (case hg => rfl); (case hr => first | (go_simp; done) | (go_simp; rfl))
                     intro gb271 hg w24 hbox hb
                     have BK271 := Aside0.mk (hbox)
                     have GW271 := Aside0.mk ((qqp3 : w.heap.size ≤ gb271))
                     have GE271 := Aside0.mk ((qqp3 : w.heap.size ≤ gb271))
                     have NB265_271 := Aside0.mk ((q571 : gb265 ≠ gb271))
                     have NB271_265 := Aside0.mk ((qkam : gb271 ≠ gb265))
                     replace BK265 := Aside0.mk (blk_below (g := gb265) (o := .cells #[.int .i64 0, .int .u64 0, .int .u32 0, .int .u64 0, .int .u32 0] 35 (0, 0)) qy8g hb)
                     replace HB := Aside0.mk (below_step qefd hb)
                     clear hb hbox hg
                     refine hK.out _ _ trivial (fun hHeld => ?_)
                     clear hK K
                     refine norm_ (a' := ?_) ?_ ?_
                     rotate_left
                     ·exact z23_1
                     exact norm_ qn46 (hJ2_6_19 (gb271) _ ⟨qy8g, qrsn, GW271.out, GE271.out, NB265_271.out, NB271_265.out, qtqh⟩)
                  ·skip
                   rintro gb271 w24 ⟨h0_, h1_, h2_, h3_, h4_, h5_, h6_⟩
                   have n0_ : Aside0 (w24.heap[gb265]? = some (.cells #[.int .i64 0, .int .u64 0, .int .u32 0, .int .u64 0, .int .u32 0] 35 (0, 0))) := ⟨h0_⟩
                   have n1_ : Aside0 (w24.heap[gb271]? = some (.cells #[.int .i64 0, .int .u64 0, .int .u32 0, .int .u64 0, .int .u32 0] 35 (0, 0))) := ⟨h1_⟩
                   have n2_ : Aside0 (w.heap.size ≤ gb271) := ⟨h2_⟩
                   have n3_ : Aside0 (w.heap.size ≤ gb271) := ⟨h3_⟩
                   have n4_ : Aside0 (gb265 ≠ gb271) := ⟨h4_⟩
                   have n5_ : Aside0 (gb271 ≠ gb265) := ⟨h5_⟩
                   have n6_ : Aside0 (Below w.heap.size w w24) := ⟨h6_⟩
                   clear BK265
                   clear HB
                   clear h0_ h1_ h2_ h3_ h4_ h5_ h6_
                   have BK265 := n0_
                   have BK271 := n1_
                   have GW271 := n2_
                   have GE271 := n3_
                   have NB265_271 := n4_
                   have NB271_265 := n5_
                   have HB := n6_
                   clear n0_ n1_ n2_ n3_ n4_ n5_ n6_
                   have hHeld := trivial
                   refine norm_ (a' := ?_) ?_ ?_
                   rotate_left
                   ·exact z23_0
                   refine one_ (i := 9) (N := some 18) (ba 21 580607) rfl rfl (one_of HT_.out qg3m) qomw (fun K hK => ?_)
                   refine goes_ Tryd.func40 qg3m rfl #[.string (a0.extract 14 18)] qlo1 rfl rfl qraq ?_
                   with_reducible refine (gangwayref01_Num.calls k (a0.extract 14 18) t268 _ A13.out).mono ?_
                   rintro e w' ⟨rfl, ⟨nd, rfl⟩⟩
                   refine ⟨_, rfl, ?_⟩
                   refine hK.out _ _ trivial (fun hHeld => ?_)
                   clear hK K
                   refine norm_ (a' := ?_) ?_ ?_
                   rotate_left
                   ·exact z23_4
                   refine pu_139 (i := 10) (N := some 19) (ba 21 581631) ?_
                   exact norm_ qn46 (hJ2_6_9_19 (gb271) _ ⟨qy8g, qrsn, GW271.out, GE271.out, NB265_271.out, NB271_265.out, qtqh⟩)
                 ·skip
                  rintro _ w23 ⟨h0_, h1_⟩
                  have n0_ : Aside0 (w23.heap[gb265]? = some (.cells #[.int .i64 0, .int .u64 0, .int .u32 0, .int .u64 0, .int .u32 0] 35 (0, 0))) := ⟨h0_⟩
                  have n1_ : Aside0 (Below w.heap.size w w23) := ⟨h1_⟩
                  clear BK265
                  clear HB
                  clear h0_ h1_
                  have BK265 := n0_
                  have HB := n1_
                  clear n0_ n1_
                  have hHeld := trivial
                  refine norm_ (a' := ?_) ?_ ?_
                  rotate_left
                  ·exact z23_0
                  refine two_ (i := 13) (j := 19) (Ni := some 22) (Nj := some 4) (ba 21 65535) (ba 21 581631) rfl rfl rfl rfl (two_of HT_.out qg3m) qomw qomw (fun K hK => ?_) (fun K hK => ?_)
                  ·skip
                   refine goes_ Tryd.func40 qg3m rfl #[.string (a0.extract 18 24)] qlo1 rfl rfl qraq ?_
                   with_reducible refine (gangwayref01_Num.calls k (a0.extract 18 24) t269 _ A16.out).mono ?_
                   rintro e w' ⟨rfl, ⟨nd, rfl⟩⟩
                   refine ⟨_, rfl, ?_⟩
                   refine hK.out _ _ trivial (fun hHeld => ?_)
                   clear hK K
                   refine norm_ (a' := ?_) ?_ ?_
                   rotate_left
                   ·exact z23_5
                   exact norm_ qn46 (hJ2_6_9_13 () _ ⟨qy8g, qefd⟩)
                  ·skip
                   refine box_step ?hg (N := 4) ?hd (cs := #[.int .i64 0, .int .u64 0, .int .u32 0, .int .u64 0, .int .u32 0]) (t := 35) ?hr ?_; (case hd => rfl); (case hg => rfl); (case hr => first | (go_simp; done) | (go_simp; rfl))
                   intro gb271 hg w24 hbox hb
                   have BK271 := Aside0.mk (hbox)
                   have GW271 := Aside0.mk ((qqp3 : w.heap.size ≤ gb271))
                   have GE271 := Aside0.mk ((qqp3 : w.heap.size ≤ gb271))
                   have NB265_271 := Aside0.mk ((q571 : gb265 ≠ gb271))
                   have NB271_265 := Aside0.mk ((qkam : gb271 ≠ gb265))
                   replace BK265 := Aside0.mk (blk_below (g := gb265) (o := .cells #[.int .i64 0, .int .u64 0, .int .u32 0, .int .u64 0, .int .u32 0] 35 (0, 0)) qy8g hb)
                   replace HB := Aside0.mk (below_step qefd hb)
                   clear hb hbox hg
                   refine hK.out _ _ trivial (fun hHeld => ?_)
                   clear hK K
                   refine norm_ (a' := ?_) ?_ ?_
                   rotate_left
                   ·exact z23_1
                   exact norm_ qn46 (hJ2_6_9_19 (gb271) _ ⟨qy8g, qrsn, GW271.out, GE271.out, NB265_271.out, NB271_265.out, qtqh⟩)
                ·skip
                 rintro gb271 w24 ⟨h0_, h1_, h2_, h3_, h4_, h5_, h6_⟩
                 have n0_ : Aside0 (w24.heap[gb265]? = some (.cells #[.int .i64 0, .int .u64 0, .int .u32 0, .int .u64 0, .int .u32 0] 35 (0, 0))) := ⟨h0_⟩
                 have n1_ : Aside0 (w24.heap[gb271]? = some (.cells #[.int .i64 0, .int .u64 0, .int .u32 0, .int .u64 0, .int .u32 0] 35 (0, 0))) := ⟨h1_⟩
                 have n2_ : Aside0 (w.heap.size ≤ gb271) := ⟨h2_⟩
                 have n3_ : Aside0 (w.heap.size ≤ gb271) := ⟨h3_⟩
                 have n4_ : Aside0 (gb265 ≠ gb271) := ⟨h4_⟩
                 have n5_ : Aside0 (gb271 ≠ gb265) := ⟨h5_⟩
                 have n6_ : Aside0 (Below w.heap.size w w24) := ⟨h6_⟩
                 clear BK265
                 clear HB
                 clear h0_ h1_ h2_ h3_ h4_ h5_ h6_
                 have BK265 := n0_
                 have BK271 := n1_
                 have GW271 := n2_
                 have GE271 := n3_
                 have NB265_271 := n4_
                 have NB271_265 := n5_
                 have HB := n6_
                 clear n0_ n1_ n2_ n3_ n4_ n5_ n6_
                 have hHeld := trivial
                 refine norm_ (a' := ?_) ?_ ?_
                 rotate_left
                 ·exact z23_0
                 refine one_ (i := 13) (N := some 22) (ba 21 589823) rfl rfl (one_of HT_.out qg3m) qomw (fun K hK => ?_)
                 refine goes_ Tryd.func40 qg3m rfl #[.string (a0.extract 18 24)] qlo1 rfl rfl qraq ?_
                 with_reducible refine (gangwayref01_Num.calls k (a0.extract 18 24) t269 _ A16.out).mono ?_
                 rintro e w' ⟨rfl, ⟨nd, rfl⟩⟩
                 refine ⟨_, rfl, ?_⟩
                 refine hK.out _ _ trivial (fun hHeld => ?_)
                 clear hK K
                 refine norm_ (a' := ?_) ?_ ?_
                 rotate_left
                 ·exact z23_5
                 exact norm_ qn46 (hJ2_6_9_13_19 (gb271) _ ⟨qy8g, qrsn, GW271.out, GE271.out, NB265_271.out, NB271_265.out, qtqh⟩)
               ·skip
                rintro _ w23 ⟨h0_, h1_⟩
                have n0_ : Aside0 (w23.heap[gb265]? = some (.cells #[.int .i64 0, .int .u64 0, .int .u32 0, .int .u64 0, .int .u32 0] 35 (0, 0))) := ⟨h0_⟩
                have n1_ : Aside0 (Below w.heap.size w w23) := ⟨h1_⟩
                clear BK265
                clear HB
                clear h0_ h1_
                have BK265 := n0_
                have HB := n1_
                clear n0_ n1_
                have hHeld := trivial
                refine norm_ (a' := ?_) ?_ ?_
                rotate_left
                ·exact z23_0
                refine two_ (i := 16) (j := 19) (Ni := some 25) (Nj := some 4) (ba 21 131071) (ba 21 589823) rfl rfl rfl rfl (two_of HT_.out qg3m) qomw qomw (fun K hK => ?_) (fun K hK => ?_)
                ·skip
                 refine goes_ Tryd.func40 qg3m rfl #[.string (a0.extract 24 28)] qlo1 rfl rfl qraq ?_
                 with_reducible refine (gangwayref01_Num.calls k (a0.extract 24 28) t270 _ A19.out).mono ?_
                 rintro e w' ⟨rfl, ⟨nd, rfl⟩⟩
                 refine ⟨_, rfl, ?_⟩
                 refine hK.out _ _ trivial (fun hHeld => ?_)
                 clear hK K
                 refine norm_ (a' := ?_) ?_ ?_
                 rotate_left
                 ·exact z23_6
                 refine pu_139 (i := 17) (N := some 26) (ba 21 262143) ?_
                 refine pu_139 (i := 18) (N := some 27) (ba 21 524287) ?_
                 exact norm_ qn46 (hJ2_6_9_13_16 () _ ⟨qy8g, qefd⟩)
                ·skip
                 refine box_step ?hg (N := 4) ?hd (cs := #[.int .i64 0, .int .u64 0, .int .u32 0, .int .u64 0, .int .u32 0]) (t := 35) ?hr ?_; (case hd => rfl); (case hg => rfl); (case hr => first | (go_simp; done) | (go_simp; rfl))
                 intro gb271 hg w24 hbox hb
                 have BK271 := Aside0.mk (hbox)
                 have GW271 := Aside0.mk ((qqp3 : w.heap.size ≤ gb271))
                 have GE271 := Aside0.mk ((qqp3 : w.heap.size ≤ gb271))
                 have NB265_271 := Aside0.mk ((q571 : gb265 ≠ gb271))
                 have NB271_265 := Aside0.mk ((qkam : gb271 ≠ gb265))
                 replace BK265 := Aside0.mk (blk_below (g := gb265) (o := .cells #[.int .i64 0, .int .u64 0, .int .u32 0, .int .u64 0, .int .u32 0] 35 (0, 0)) qy8g hb)
                 replace HB := Aside0.mk (below_step qefd hb)
                 clear hb hbox hg
                 refine hK.out _ _ trivial (fun hHeld => ?_)
                 clear hK K
                 refine norm_ (a' := ?_) ?_ ?_
                 rotate_left
                 ·exact z23_1
                 exact norm_ qn46 (hJ2_6_9_13_19 (gb271) _ ⟨qy8g, qrsn, GW271.out, GE271.out, NB265_271.out, NB271_265.out, qtqh⟩)
              ·skip
               rintro gb271 w24 ⟨h0_, h1_, h2_, h3_, h4_, h5_, h6_⟩
               have n0_ : Aside0 (w24.heap[gb265]? = some (.cells #[.int .i64 0, .int .u64 0, .int .u32 0, .int .u64 0, .int .u32 0] 35 (0, 0))) := ⟨h0_⟩
               have n1_ : Aside0 (w24.heap[gb271]? = some (.cells #[.int .i64 0, .int .u64 0, .int .u32 0, .int .u64 0, .int .u32 0] 35 (0, 0))) := ⟨h1_⟩
               have n2_ : Aside0 (w.heap.size ≤ gb271) := ⟨h2_⟩
               have n3_ : Aside0 (w.heap.size ≤ gb271) := ⟨h3_⟩
               have n4_ : Aside0 (gb265 ≠ gb271) := ⟨h4_⟩
               have n5_ : Aside0 (gb271 ≠ gb265) := ⟨h5_⟩
               have n6_ : Aside0 (Below w.heap.size w w24) := ⟨h6_⟩
               clear BK265
               clear HB
               clear h0_ h1_ h2_ h3_ h4_ h5_ h6_
               have BK265 := n0_
               have BK271 := n1_
               have GW271 := n2_
               have GE271 := n3_
               have NB265_271 := n4_
               have NB271_265 := n5_
               have HB := n6_
               clear n0_ n1_ n2_ n3_ n4_ n5_ n6_
               have hHeld := trivial
               refine norm_ (a' := ?_) ?_ ?_
               rotate_left
               ·exact z23_0
               refine one_ (i := 16) (N := some 25) (ba 21 655359) rfl rfl (one_of HT_.out qg3m) qomw (fun K hK => ?_)
               refine goes_ Tryd.func40 qg3m rfl #[.string (a0.extract 24 28)] qlo1 rfl rfl qraq ?_
               with_reducible refine (gangwayref01_Num.calls k (a0.extract 24 28) t270 _ A19.out).mono ?_
               rintro e w' ⟨rfl, ⟨nd, rfl⟩⟩
               refine ⟨_, rfl, ?_⟩
               refine hK.out _ _ trivial (fun hHeld => ?_)
               clear hK K
               refine norm_ (a' := ?_) ?_ ?_
               rotate_left
               ·exact z23_6
               refine pu_139 (i := 17) (N := some 26) (ba 21 786431) ?_
               refine pu_139 (i := 18) (N := some 27) (ba 21 1048575) ?_
               exact norm_ qn46 (hJ2_6_9_13_16_19 (gb271) _ ⟨qy8g, qrsn, GW271.out, GE271.out, NB265_271.out, NB271_265.out, qtqh⟩)
             ·skip
              rintro _ w23 ⟨h0_, h1_⟩
              have n0_ : Aside0 (w23.heap[gb265]? = some (.cells #[.int .i64 0, .int .u64 0, .int .u32 0, .int .u64 0, .int .u32 0] 35 (0, 0))) := ⟨h0_⟩
              have n1_ : Aside0 (Below w.heap.size w w23) := ⟨h1_⟩
              clear BK265
              clear HB
              clear h0_ h1_
              have BK265 := n0_
              have HB := n1_
              clear n0_ n1_
              have hHeld := trivial
              refine norm_ (a' := ?_) ?_ ?_
              rotate_left
              ·exact z23_0
              refine one_ (i := 19) (N := some 4) (ba 21 1048575) rfl rfl (one_of HT_.out qg3m) qomw (fun K hK => ?_)
              refine box_step ?hg (N := 4) ?hd (cs := #[.int .i64 0, .int .u64 0, .int .u32 0, .int .u64 0, .int .u32 0]) (t := 35) ?hr ?_; (case hd => rfl); (case hg => rfl); (case hr => first | (go_simp; done) | (go_simp; rfl))
              intro gb271 hg w24 hbox hb
              have BK271 := Aside0.mk (hbox)
              have GW271 := Aside0.mk ((qqp3 : w.heap.size ≤ gb271))
              have GE271 := Aside0.mk ((qqp3 : w.heap.size ≤ gb271))
              have NB265_271 := Aside0.mk ((q571 : gb265 ≠ gb271))
              have NB271_265 := Aside0.mk ((qkam : gb271 ≠ gb265))
              replace BK265 := Aside0.mk (blk_below (g := gb265) (o := .cells #[.int .i64 0, .int .u64 0, .int .u32 0, .int .u64 0, .int .u32 0] 35 (0, 0)) qy8g hb)
              replace HB := Aside0.mk (below_step qefd hb)
              clear hb hbox hg
              refine hK.out _ _ trivial (fun hHeld => ?_)
              clear hK K
              refine norm_ (a' := ?_) ?_ ?_
              rotate_left
              ·exact z23_1
              exact norm_ qn46 (hJ2_6_9_13_16_19 (gb271) _ ⟨qy8g, qrsn, GW271.out, GE271.out, NB265_271.out, NB271_265.out, qtqh⟩)
            rintro gb271 w24 ⟨h0_, h1_, h2_, h3_, h4_, h5_, h6_⟩
            have n0_ : Aside0 (w24.heap[gb265]? = some (.cells #[.int .i64 0, .int .u64 0, .int .u32 0, .int .u64 0, .int .u32 0] 35 (0, 0))) := ⟨h0_⟩
            have n1_ : Aside0 (w24.heap[gb271]? = some (.cells #[.int .i64 0, .int .u64 0, .int .u32 0, .int .u64 0, .int .u32 0] 35 (0, 0))) := ⟨h1_⟩
            have n2_ : Aside0 (w.heap.size ≤ gb271) := ⟨h2_⟩
            have n3_ : Aside0 (w.heap.size ≤ gb271) := ⟨h3_⟩
            have n4_ : Aside0 (gb265 ≠ gb271) := ⟨h4_⟩
            have n5_ : Aside0 (gb271 ≠ gb265) := ⟨h5_⟩
            have n6_ : Aside0 (Below w.heap.size w w24) := ⟨h6_⟩
            clear BK265
            clear HB
            clear h0_ h1_ h2_ h3_ h4_ h5_ h6_
            have BK265 := n0_
            have BK271 := n1_
            have GW271 := n2_
            have GE271 := n3_
            have NB265_271 := n4_
            have NB271_265 := n5_
            have HB := n6_
            clear n0_ n1_ n2_ n3_ n4_ n5_ n6_
            have hHeld := trivial
            refine norm_ (a' := ?_) ?_ ?_
            rotate_left
            ·exact z23_0
            refine one_ (i := 20) (N := none) (ba 21 2097151) rfl rfl (one_of HT_.out qg3m) qomw (fun K hK => ?_)
            have hs25 : w24.cell? ⟨gb271, 0, none⟩ = some (.int .i64 0) := (blk_cell BK271.out 0).trans rfl
            have hfs25 := blk_frozen BK271.out 0
            have hns25_0 := NB265_271.out
            have hms25_0 := NB271_265.out
            have hs26 : w24.cell? ⟨gb271, 1, none⟩ = some (.int .u64 0) := (blk_cell BK271.out 1).trans rfl
            have hfs26 := blk_frozen BK271.out 1
            have hns26_0 := NB265_271.out
            have hms26_0 := NB271_265.out
            have hs27 : w24.cell? ⟨gb271, 2, none⟩ = some (.int .u32 0) := (blk_cell BK271.out 2).trans rfl
            have hfs27 := blk_frozen BK271.out 2
            have hns27_0 := NB265_271.out
            have hms27_0 := NB271_265.out
            have hs28 : w24.cell? ⟨gb271, 3, none⟩ = some (.int .u64 0) := (blk_cell BK271.out 3).trans rfl
            have hfs28 := blk_frozen BK271.out 3
            have hns28_0 := NB265_271.out
            have hms28_0 := NB271_265.out
            have hs29 : w24.cell? ⟨gb271, 4, none⟩ = some (.int .u32 0) := (blk_cell BK271.out 4).trans rfl
            have hfs29 := blk_frozen BK271.out 4
            have hns29_0 := NB265_271.out
            have hms29_0 := NB271_265.out
            refine skip_ (w1 := ?_) qgcr rfl ?_ ?_
            rotate_left
            ·go_simp
             rfl
            refine hK.out _ _ trivial (fun hHeld => ?_)
            clear hK K
            refine done_ (done_of HT_.out qg3m) ?_
            go_upto_region 4 with (fail)
            go_cut [35] (fun v35 wc => ∃ (kq : Nat) (x35_19 : Bool), v35 = .bool x35_19 ∧ Aside0 (gangwayref05_Parse.j0 kq x35_19 (wrap64 (t266)) t267 ((t268) % 4294967296) t269 ((t270) % 4294967296) = some (r1, r2, r3, r4, r5, r6)) ∧ Aside0 (kq ≤ k) ∧ Aside0 (wc.heap[gb265]? = some (.cells #[.int .i64 0, .int .u64 0, .int .u32 0, .int .u64 0, .int .u32 0] 35 (0, 0))) ∧ Aside0 (wc.heap[gb271]? = some (.cells #[.int .i64 (wrap64 (t266)), .int .u64 t267, .int .u32 ((t268) % 4294967296), .int .u64 t269, .int .u32 ((t270) % 4294967296)] 35 (0, 0))) ∧ Aside0 (Below w.heap.size w wc))
            case first =>
             have H := HC20.out
             clear HC20
             by_cases c30 : 0 ≤ 6
             ·rw [if_pos c30] at H
              have c30b0 := eq_true c30
              have c30b1 : decide (0 ≤ 6) = true := decide_eq_true c30
              clear c30
              by_cases c31 : 6 ≤ (a0.size : Int)
              ·rw [if_pos c31] at H
               have c31b0 := eq_true c31
               have c31b1 : decide (6 ≤ (a0.size : Int)) = true := decide_eq_true c31
               clear c31
               by_cases c32 : (a0.extract 0 6).toList = ([0, 1, 8, 0, 6, 4] : List UInt8)
               ·rw [if_pos c32] at H
                have c32b0 : ((a0.extract 0 6).toList == ([0, 1, 8, 0, 6, 4] : List UInt8)) = true := beq_iff_eq.mpr c32
                have c32b1 : ((a0.extract 0 6).toList != ([0, 1, 8, 0, 6, 4] : List UInt8)) = false := bne_eq_false_iff_eq.mpr c32
                clear c32
                (first | rw [c32b0] | (simp only [i64_w, i32_w]; rw [c32b0]) | skip)
                replace H := Option.bind_eq_some_iff.mp H
                obtain ⟨t272, A330, H⟩ := H
                try dsimp only at H
                have A33 := Aside0.mk A330
                clear A330
                have H' := Aside0.mk H
                clear H
                have hnb34 := NB271_265.out
                have hnc34 := NB265_271.out
                obtain ⟨hcz35_0, hcz35_1, hcz35_2, hcz35_3, hcz35_4⟩ := cells5 BK271.out
                obtain ⟨hfz35_0, hfz35_1, hfz35_2, hfz35_3, hfz35_4⟩ := frozen5 BK271.out
                go_wp2_with (first | ((with_reducible refine gate_st (ty := 35) rfl ?_); refine storeC5 rfl rfl rfl rfl rfl qlxl qr2c qg3m rfl ?_) | ((with_reducible refine gate_ld (ty := 35) rfl ?_); (try (with_reducible refine gate_gd rfl ?_; refine gate_guard q8ju ?_; dsimp only)); refine load_st rfl rfl rfl qlxl qr2c Tryd.underlying35 rfl qg3m ?_; (try simp only [Act.put, List.setIfInBounds_toArray, List.set_cons_zero, List.set_cons_succ])) | (go_at_call 65; (with_reducible refine (gangwayref05_Check.calls (wrap64 (t266)) t267 ((t268) % 4294967296) t269 ((t270) % 4294967296) t272 _ A33.out).mono ?_); rintro e w36 ⟨rfl, hb⟩; replace BK265 := Aside0.mk (blk_below (g := gb265) (o := .cells #[.int .i64 0, .int .u64 0, .int .u32 0, .int .u64 0, .int .u32 0] 35 (0, 0)) qlu2 hb); replace BK271 := Aside0.mk (blk_below (g := gb271) (o := .cells #[.int .i64 (wrap64 (t266)), .int .u64 t267, .int .u32 ((t268) % 4294967296), .int .u64 t269, .int .u32 ((t270) % 4294967296)] 35 (0, 0)) qpao hb); replace HB := Aside0.mk (below_step qtqh hb); obtain ⟨hcy1_265_0, hcy1_265_1, hcy1_265_2, hcy1_265_3, hcy1_265_4⟩ := cells5 BK265.out; (try clear hb); (try clear hb2); (try clear hk); (try clear hi)))
                go_meet
                case rel => exact ⟨_, ((t272 != 0)), q8z4, H', ⟨qpfc⟩, ⟨qy8g⟩, ⟨qrsn⟩, ⟨qtqh⟩⟩
               ·rw [if_neg c32] at H
                have c32b0 : ((a0.extract 0 6).toList == ([0, 1, 8, 0, 6, 4] : List UInt8)) = false := beq_eq_false_iff_ne.mpr c32
                have c32b1 : ((a0.extract 0 6).toList != ([0, 1, 8, 0, 6, 4] : List UInt8)) = true := bne_iff_ne.mpr c32
                (first | rw [c32b0] | (simp only [i64_w, i32_w]; rw [c32b0]) | skip)
                have H' := Aside0.mk H
                clear H
                go_wp2_with (first | ((with_reducible refine gate_st (ty := 35) rfl ?_); refine storeC5 rfl rfl rfl rfl rfl qlxl qr2c qg3m rfl ?_) | ((with_reducible refine gate_ld (ty := 35) rfl ?_); (try (with_reducible refine gate_gd rfl ?_; refine gate_guard q8ju ?_; dsimp only)); refine load_st rfl rfl rfl qlxl qr2c Tryd.underlying35 rfl qg3m ?_; (try simp only [Act.put, List.setIfInBounds_toArray, List.set_cons_zero, List.set_cons_succ])) | go_in)
                go_meet
                case rel => exact ⟨_, (true), q8z4, H', ⟨qpfc⟩, ⟨qlu2⟩, ⟨qpao⟩, ⟨qtqh⟩⟩
              ·rw [if_neg c31] at H
               exact absurd H q6hr
             ·rw [if_neg c30] at H
              exact absurd H q6hr
            case rest =>
             clear HC20
             try clear p2
             try clear c3
             try clear c4
             try clear p6
             try clear c30
             try clear c30b0
             try clear c30b1
             try clear c31
             try clear c31b0
             try clear c31b1
             try clear c32
             try clear c32b0
             try clear c32b1
             try clear c34
             obtain ⟨kq, x35_19, rfl, HA, HJ19, BK265, BK271, HB⟩ := hcut
             cases kq with
             | zero => exact absurd HA.out (by simp [gangwayref05_Parse.j0])
             | succ kj19 =>
              have H := HA.out
              clear HA
              simp only [gangwayref05_Parse.j0] at H
              by_cases c37 : x35_19 = true
              ·subst c37
               rw [if_pos rfl] at H
               simp only [Option.some.injEq, Prod.mk.injEq] at H
               obtain ⟨rfl, rfl, rfl, rfl, rfl, rfl⟩ := H
               have hnb38 := NB265_271.out
               have hnc38 := NB271_265.out
               obtain ⟨hcz39_0, hcz39_1, hcz39_2, hcz39_3, hcz39_4⟩ := cells5 BK265.out
               obtain ⟨hfz39_0, hfz39_1, hfz39_2, hfz39_3, hfz39_4⟩ := frozen5 BK265.out
               go_wp2_with (first | ((with_reducible refine gate_st (ty := 35) rfl ?_); refine storeC5 rfl rfl rfl rfl rfl qlxl qr2c qg3m rfl ?_) | ((with_reducible refine gate_ld (ty := 35) rfl ?_); (try (with_reducible refine gate_gd rfl ?_; refine gate_guard q8ju ?_; dsimp only)); refine load_st rfl rfl rfl qlxl qr2c Tryd.underlying35 rfl qg3m ?_; (try simp only [Act.put, List.setIfInBounds_toArray, List.set_cons_zero, List.set_cons_succ])) | go_in)
               refine bodyPost_ret (results_ct rfl _ _ gb265 35 #[.int .i64 0, .int .u64 0, .int .u32 0, .int .u64 0, .int .u32 0] (0, 0) _ rfl qvfd Tryd.underlying35 rfl qg3m) rfl ?_
               exact ⟨qxu5, qtqh⟩
              ·replace c37 := Bool.eq_false_iff.mpr c37
               subst c37
               rw [if_neg (show ¬ (false = true) by decide)] at H
               simp only [Option.some.injEq, Prod.mk.injEq] at H
               obtain ⟨rfl, rfl, rfl, rfl, rfl, rfl⟩ := H
               have hnb40 := NB271_265.out
               have hnc40 := NB265_271.out
               obtain ⟨hcz41_0, hcz41_1, hcz41_2, hcz41_3, hcz41_4⟩ := cells5 BK271.out
               obtain ⟨hfz41_0, hfz41_1, hfz41_2, hfz41_3, hfz41_4⟩ := frozen5 BK271.out
               obtain ⟨hcz42_0, hcz42_1, hcz42_2, hcz42_3, hcz42_4⟩ := cells5 BK265.out
               obtain ⟨hfz42_0, hfz42_1, hfz42_2, hfz42_3, hfz42_4⟩ := frozen5 BK265.out
               go_wp2_with (first | ((with_reducible refine gate_st (ty := 35) rfl ?_); refine storeC5 rfl rfl rfl rfl rfl qlxl qr2c qg3m rfl ?_) | ((with_reducible refine gate_ld (ty := 35) rfl ?_); (try (with_reducible refine gate_gd rfl ?_; refine gate_guard q8ju ?_; dsimp only)); refine load_st rfl rfl rfl qlxl qr2c Tryd.underlying35 rfl qg3m ?_; (try simp only [Act.put, List.setIfInBounds_toArray, List.set_cons_zero, List.set_cons_succ])) | go_in)
               refine bodyPost_ret (results_ct rfl _ _ gb265 35 #[.int .i64 (wrap64 (t266)), .int .u64 t267, .int .u32 ((t268) % 4294967296), .int .u64 t269, .int .u32 ((t270) % 4294967296)] (0, 0) _ rfl qvfd Tryd.underlying35 rfl qg3m) rfl ?_
               exact ⟨qxu5, qtqh⟩
           ·rw [if_neg c18] at H
            exact absurd H q6hr
          ·rw [if_neg c17] at H
           exact absurd H q6hr
         ·rw [if_neg c15] at H
          exact absurd H q6hr
        ·rw [if_neg c14] at H
         exact absurd H q6hr
       ·rw [if_neg c12] at H
        exact absurd H q6hr
      ·rw [if_neg c11] at H
       exact absurd H q6hr
     ·rw [if_neg c9] at H
      exact absurd H q6hr
    ·rw [if_neg c8] at H
     exact absurd H q6hr
   ·rw [if_neg c6] at H
    exact absurd H q6hr
  ·rw [if_neg c5] at H
   exact absurd H q6hr
end Go.Proofs.YtbkgaplldfilnaaDoor.P
