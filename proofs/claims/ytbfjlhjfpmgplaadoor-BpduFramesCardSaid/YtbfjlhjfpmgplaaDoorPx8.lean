-- slim
-- Written by wip/hprint.py (this session's program) through the kit's print program; hand contracts are marked 'by hand'.
import Derived.Test.YtbfjlhjfpmgplaaDoorAbb
import Derived.Test.YtbfjlhjfpmgplaaDoorRow
import Derived.Test.YtbfjlhjfpmgplaaDoorPx0
import Derived.Test.YtbfjlhjfpmgplaaDoorPx4
import Derived.Test.YtbfjlhjfpmgplaaDoorPx5
import Derived.Test.YtbfjlhjfpmgplaaDoorPx7
namespace Go.Proofs.YtbfjlhjfpmgplaaDoor.P
open Go.RowKit Go.Proofs.YtbfjlhjfpmgplaaDoorW.PrintWords Go.Proofs.YtbfjlhjfpmgplaaDoorW.PrintLast Go.Proofs.YtbfjlhjfpmgplaaDoorW.PrintMore
attribute [local go_sem] max2_int min2_int max_two min_two max_three min_three max_four min_four   -- for this text's walks alone
set_option linter.unusedVariables false
set_option linter.unusedSimpArgs false

/-! ### bpdu_Build: function 8 -/
mutual
def bpdu_Build.j0 : Nat → ByteArray → ByteArray → Int → Bool → Bool → Bool → Bool → Bool → Bool → Int → Int → Int → Int → Int → Int → Int → Int → Int → Option (ByteArray × Int)
 | 0, _, _, _, _, _, _, _, _, _, _, _, _, _, _, _, _, _, _ => none
 | k + 1, x5, x6, x116000, x116001, x116002, x116003, x116004, x116005, x116006, x116007, x116008, x116009, x116010, x116011, x116012, x116013, x116014, x116015 => if 5 + x5.size ≤ 9223372036854775807 then ((bpdu_flags.f x116000 x116001 x116002 x116003 x116004 x116005 x116006 x116007 x116008 x116009 x116010 x116011 x116012 x116013 x116014 x116015).bind fun t117 => ((some (([t117] : List Int) : List Int)).bind fun y118 => (if ((⟨#[66, 66, 3, 0, 0]⟩ : ByteArray) ++ x5).size + (strOfNums y118).size ≤ 9223372036854775807 then ((bpdu_put.f k x116008 8).bind fun t121 => (if (((⟨#[66, 66, 3, 0, 0]⟩ : ByteArray) ++ x5) ++ (strOfNums y118)).size + t121.size ≤ 9223372036854775807 then ((bpdu_put.f k (IntKind.u64.wrap (x116009)) 4).bind fun t122 => (if ((((⟨#[66, 66, 3, 0, 0]⟩ : ByteArray) ++ x5) ++ (strOfNums y118)) ++ t121).size + t122.size ≤ 9223372036854775807 then ((bpdu_put.f k x116010 8).bind fun t123 => (if (((((⟨#[66, 66, 3, 0, 0]⟩ : ByteArray) ++ x5) ++ (strOfNums y118)) ++ t121) ++ t122).size + t123.size ≤ 9223372036854775807 then ((bpdu_put.f k (IntKind.u64.wrap (x116011)) 2).bind fun t124 => (if ((((((⟨#[66, 66, 3, 0, 0]⟩ : ByteArray) ++ x5) ++ (strOfNums y118)) ++ t121) ++ t122) ++ t123).size + t124.size ≤ 9223372036854775807 then ((some (([x116012, x116013, x116014, x116015] : List Int) : List Int)).bind fun y125 => (bpdu_Build.l0 k x6 (((((((⟨#[66, 66, 3, 0, 0]⟩ : ByteArray) ++ x5) ++ (strOfNums y118)) ++ t121) ++ t122) ++ t123) ++ t124) y125 (y125.length : Int) 0)) else (none))) else (none))) else (none))) else (none))) else (none)))) else (none)
def bpdu_Build.l0 : Nat → ByteArray → ByteArray → List Int → Int → Int → Option (ByteArray × Int)
 | 0, _, _, _, _, _ => none
 | k + 1, x6, x7, x54, x55, x56 => if x56 < x55 then (if 0 ≤ x56 then (if x56 < (x54.length : Int) then ((bpdu_put.f k (IntKind.u64.wrap (rd x54 x56)) 2).bind fun t129 => (if x7.size + t129.size ≤ 9223372036854775807 then (bpdu_Build.l0 k x6 (x7 ++ t129) x54 x55 (wrap64 (x56 + 1))) else (none))) else (none)) else (none)) else (if x7.size + x6.size ≤ 9223372036854775807 then (some (x7 ++ x6, 0)) else (none))
end
def bpdu_Build.f (k : Nat) (a0_0 : Int) (a0_1 : Bool) (a0_2 : Bool) (a0_3 : Bool) (a0_4 : Bool) (a0_5 : Bool) (a0_6 : Bool) (a0_7 : Int) (a0_8 : Int) (a0_9 : Int) (a0_10 : Int) (a0_11 : Int) (a0_12 : Int) (a0_13 : Int) (a0_14 : Int) (a0_15 : Int) : Option (ByteArray × Int) := (bpdu_Check.f k a0_0 a0_1 a0_2 a0_3 a0_4 a0_5 a0_6 a0_7 a0_8 a0_9 a0_10 a0_11 a0_12 a0_13 a0_14 a0_15).bind fun t116 => (if t116 = 0 then (if a0_0 = 128 then (some ((⟨#[66, 66, 3, 0, 0, 0, 128]⟩ : ByteArray), 0)) else (if a0_0 = 2 then (bpdu_Build.j0 k (⟨#[2, 2]⟩ : ByteArray) (⟨#[0]⟩ : ByteArray) a0_0 a0_1 a0_2 a0_3 a0_4 a0_5 a0_6 a0_7 a0_8 a0_9 a0_10 a0_11 a0_12 a0_13 a0_14 a0_15) else (bpdu_Build.j0 k (⟨#[0, 0]⟩ : ByteArray) (⟨#[]⟩ : ByteArray) a0_0 a0_1 a0_2 a0_3 a0_4 a0_5 a0_6 a0_7 a0_8 a0_9 a0_10 a0_11 a0_12 a0_13 a0_14 a0_15))) else (some ((⟨#[]⟩ : ByteArray), t116)))
theorem bpdu_Build.mono_l : ∀ k, (∀ y0 y1 y2 y3 y4 y5 y6 y7 y8 y9 y10 y11 y12 y13 y14 y15 y16 y17, LeO (bpdu_Build.j0 k y0 y1 y2 y3 y4 y5 y6 y7 y8 y9 y10 y11 y12 y13 y14 y15 y16 y17) (bpdu_Build.j0 (k + 1) y0 y1 y2 y3 y4 y5 y6 y7 y8 y9 y10 y11 y12 y13 y14 y15 y16 y17)) ∧ (∀ y0 y1 y2 y3 y4, LeO (bpdu_Build.l0 k y0 y1 y2 y3 y4) (bpdu_Build.l0 (k + 1) y0 y1 y2 y3 y4))
 | 0 => ⟨fun _ _ _ _ _ _ _ _ _ _ _ _ _ _ _ _ _ _ r h => by simp [bpdu_Build.j0] at h, fun _ _ _ _ _ r h => by simp [bpdu_Build.l0] at h⟩
 | k + 1 => by
  obtain ⟨ih0, ih1⟩ := bpdu_Build.mono_l k
  refine ⟨?_, ?_⟩
  ·intro y0 y1 y2 y3 y4 y5 y6 y7 y8 y9 y10 y11 y12 y13 y14 y15 y16 y17
   unfold bpdu_Build.j0
   repeat' first
   | (with_reducible exact ih0 _ _ _ _ _ _ _ _ _ _ _ _ _ _ _ _ _ _)
   | (with_reducible exact ih1 _ _ _ _ _)
   | (with_reducible exact bpdu_Check.mono _ _ _ _ _ _ _ _ _ _ _ _ _ _ _ _ _)
   | (with_reducible exact bpdu_put.mono _ _ _)
   | (with_reducible exact LeO.refl _)
   | (with_reducible exact LeO.none _)
   | (with_reducible refine LeO.ite ?_ ?_)
   | (with_reducible refine LeO.bind ?_ (fun _ => ?_))
   | exact ih0 _ _ _ _ _ _ _ _ _ _ _ _ _ _ _ _ _ _
   | exact ih1 _ _ _ _ _
   | exact bpdu_Check.mono _ _ _ _ _ _ _ _ _ _ _ _ _ _ _ _ _
   | exact bpdu_put.mono _ _ _
   | exact LeO.none _
   | refine LeO.ite ?_ ?_
   | refine LeO.bind ?_ (fun _ => ?_)
  ·intro y0 y1 y2 y3 y4
   unfold bpdu_Build.l0
   repeat' first
   | (with_reducible exact ih0 _ _ _ _ _ _ _ _ _ _ _ _ _ _ _ _ _ _)
   | (with_reducible exact ih1 _ _ _ _ _)
   | (with_reducible exact bpdu_Check.mono _ _ _ _ _ _ _ _ _ _ _ _ _ _ _ _ _)
   | (with_reducible exact bpdu_put.mono _ _ _)
   | (with_reducible exact LeO.refl _)
   | (with_reducible exact LeO.none _)
   | (with_reducible refine LeO.ite ?_ ?_)
   | (with_reducible refine LeO.bind ?_ (fun _ => ?_))
   | exact ih0 _ _ _ _ _ _ _ _ _ _ _ _ _ _ _ _ _ _
   | exact ih1 _ _ _ _ _
   | exact bpdu_Check.mono _ _ _ _ _ _ _ _ _ _ _ _ _ _ _ _ _
   | exact bpdu_put.mono _ _ _
   | exact LeO.none _
   | refine LeO.ite ?_ ?_
   | refine LeO.bind ?_ (fun _ => ?_)
theorem bpdu_Build.mono : ∀ a0 a1 a2 a3 a4 a5 a6 a7 a8 a9 a10 a11 a12 a13 a14 a15 k, LeO (bpdu_Build.f k a0 a1 a2 a3 a4 a5 a6 a7 a8 a9 a10 a11 a12 a13 a14 a15) (bpdu_Build.f (k + 1) a0 a1 a2 a3 a4 a5 a6 a7 a8 a9 a10 a11 a12 a13 a14 a15) := by
 intro a0 a1 a2 a3 a4 a5 a6 a7 a8 a9 a10 a11 a12 a13 a14 a15 k
 obtain ⟨ih0, ih1⟩ := bpdu_Build.mono_l k
 unfold bpdu_Build.f
 repeat' first
   | (with_reducible exact ih0 _ _ _ _ _ _ _ _ _ _ _ _ _ _ _ _ _ _)
   | (with_reducible exact ih1 _ _ _ _ _)
   | (with_reducible exact bpdu_Check.mono _ _ _ _ _ _ _ _ _ _ _ _ _ _ _ _ _)
   | (with_reducible exact bpdu_put.mono _ _ _)
   | (with_reducible exact LeO.refl _)
   | (with_reducible exact LeO.none _)
   | (with_reducible refine LeO.ite ?_ ?_)
   | (with_reducible refine LeO.bind ?_ (fun _ => ?_))
   | exact ih0 _ _ _ _ _ _ _ _ _ _ _ _ _ _ _ _ _ _
   | exact ih1 _ _ _ _ _
   | exact bpdu_Check.mono _ _ _ _ _ _ _ _ _ _ _ _ _ _ _ _ _
   | exact bpdu_put.mono _ _ _
   | exact LeO.none _
   | refine LeO.ite ?_ ?_
   | refine LeO.bind ?_ (fun _ => ?_)
def bpdu_Build.T9 : Bool × List (List Nat × List Nat) := (true, [([], []), ([0], [0]), ([], []), ([2], [2]), ([3], [3]), ([4], [4]), ([1, 5], [1, 5]), ([], []), ([7], [7]), ([8, 3], [8]), ([6, 9], [6, 9]), ([], []), ([11], [11]), ([12], [12]), ([13, 9], [13]), ([10, 14], [10, 14]), ([], []), ([16], [16]), ([17, 14], [17]), ([15, 18], [15, 18]), ([], []), ([20], [20]), ([21], [21]), ([22, 18], [22]), ([19, 23], [19, 23]), ([24, 23, 0, 1, 2, 3, 4, 5, 6, 7, 8, 9, 10, 11, 12, 13, 14, 15, 16, 17, 18, 19, 20, 21, 22, 23, 24], [24])])
def bpdu_Build.B9 : List Nat := [0, 1, 0, 4, 12, 28, 63, 0, 128, 396, 1023, 0, 2048, 6144, 15244, 32767, 0, 65536, 228236, 524287, 0, 1048576, 3145728, 7830412, 16777215, 33554431]
theorem bpdu_Build.tab9 : rtab .any (opsOf Tryd.f8 9) = bpdu_Build.T9 := by kernel_rfl
theorem bpdu_Build.bits9 : waitsOk bpdu_Build.T9.2 bpdu_Build.B9 = true := by kernel_rfl
theorem z8_0 {p : Prop} (h : p := by
 go_simp
 (try simp only [i64_w])
 try rfl
 all_goals (have hz_ : (⟨#[66, 66, 3, 0, 0]⟩ : ByteArray).size = 5 := rfl; (try rw [hz_] at c17z); (try rw [hz_] at c19z); (try rw [hz_] at c21z); (try rw [hz_] at c23z); (try rw [hz_] at c25z); with_reducible assumption)) : p := h
theorem z8_1 {p : Prop} (h : p := by
 simp only [Act.put, List.setIfInBounds_toArray, List.set_cons_zero, List.set_cons_succ, i64_w, i32_w]
 rfl) : p := h
set_option maxHeartbeats 8000000 in
set_option maxRecDepth 100000 in
theorem bpdu_Build.calls (k : Nat) (a0_0 : Int) (a0_1 : Bool) (a0_2 : Bool) (a0_3 : Bool) (a0_4 : Bool) (a0_5 : Bool) (a0_6 : Bool) (a0_7 : Int) (a0_8 : Int) (a0_9 : Int) (a0_10 : Int) (a0_11 : Int) (a0_12 : Int) (a0_13 : Int) (a0_14 : Int) (a0_15 : Int) (r1 : ByteArray) (r2 : Int) (w : World) (h : bpdu_Build.f k a0_0 a0_1 a0_2 a0_3 a0_4 a0_5 a0_6 a0_7 a0_8 a0_9 a0_10 a0_11 a0_12 a0_13 a0_14 a0_15 = some (r1, r2)) :
  Calls Tryd.prog 8 #[.agg #[.int .i64 a0_0, .bool a0_1, .bool a0_2, .bool a0_3, .bool a0_4, .bool a0_5, .bool a0_6, .int .i64 a0_7, .int .u64 a0_8, .int .i64 a0_9, .int .u64 a0_10, .int .i64 a0_11, .int .i64 a0_12, .int .i64 a0_13, .int .i64 a0_14, .int .i64 a0_15]] w fun e w' => e = .returned (.tuple #[.string r1, .int .i64 r2]) ∧ Below w.heap.size w w' := by
 have hu24 := Tryd.underlying24
 have HB := Aside0.mk (Below.refl w.heap.size w)
 have H : ((bpdu_Check.f k a0_0 a0_1 a0_2 a0_3 a0_4 a0_5 a0_6 a0_7 a0_8 a0_9 a0_10 a0_11 a0_12 a0_13 a0_14 a0_15).bind fun t116 => (if t116 = 0 then (if a0_0 = 128 then (some ((⟨#[66, 66, 3, 0, 0, 0, 128]⟩ : ByteArray), 0)) else (if a0_0 = 2 then (bpdu_Build.j0 k (⟨#[2, 2]⟩ : ByteArray) (⟨#[0]⟩ : ByteArray) a0_0 a0_1 a0_2 a0_3 a0_4 a0_5 a0_6 a0_7 a0_8 a0_9 a0_10 a0_11 a0_12 a0_13 a0_14 a0_15) else (bpdu_Build.j0 k (⟨#[0, 0]⟩ : ByteArray) (⟨#[]⟩ : ByteArray) a0_0 a0_1 a0_2 a0_3 a0_4 a0_5 a0_6 a0_7 a0_8 a0_9 a0_10 a0_11 a0_12 a0_13 a0_14 a0_15))) else (some ((⟨#[]⟩ : ByteArray), t116)))) = some (r1, r2) := h
 clear h
 replace H := Option.bind_eq_some_iff.mp H
 obtain ⟨t116, A20, H⟩ := H
 try dsimp only at H
 have A2 := Aside0.mk A20
 clear A20
 by_cases c3 : t116 = 0
 ·rw [if_pos c3] at H
  have c3b0 : (t116 == 0) = true := beq_iff_eq.mpr c3
  have c3b1 : (t116 != 0) = false := bne_eq_false_iff_eq.mpr c3
  clear c3
  by_cases c4 : a0_0 = 128
  ·rw [if_pos c4] at H
   have c4b0 : (a0_0 == 128) = true := beq_iff_eq.mpr c4
   have c4b1 : (a0_0 != 128) = false := bne_eq_false_iff_eq.mpr c4
   clear c4
   simp only [Option.some.injEq, Prod.mk.injEq] at H
   obtain ⟨rfl, rfl⟩ := H
   go_enter Tryd.func8, Tryd.ntmps8
   go_wp2_with (first | ((with_reducible refine gate_st (ty := 24) rfl ?_); refine storeC16 rfl rfl rfl rfl rfl qby qo qf rfl ?_) | ((with_reducible refine gate_ld (ty := 24) rfl ?_); (try (with_reducible refine gate_gd rfl ?_; refine gate_guard qc8 ?_; dsimp only)); refine load_st rfl rfl rfl qby qo Tryd.underlying24 rfl qf ?_; (try simp only [Act.put, List.setIfInBounds_toArray, List.set_cons_zero, List.set_cons_succ])) | ((with_reducible refine gate_dst (N := 1) rfl ?_); refine box_event ?hg (N := 1) ?hd (cs := #[.int .i64 a0_0, .bool a0_1, .bool a0_2, .bool a0_3, .bool a0_4, .bool a0_5, .bool a0_6, .int .i64 a0_7, .int .u64 a0_8, .int .i64 a0_9, .int .u64 a0_10, .int .i64 a0_11, .int .i64 a0_12, .int .i64 a0_13, .int .i64 a0_14, .int .i64 a0_15]) (t := 24) ?hr ?_; (case hd => rfl); (case hg => rfl); (case hr => first | (go_simp; done) | (go_simp; rfl)); intro gb115 hg w5 hbox hb; have n0_ := Aside0.mk (below_step qbh hb); have n1_ := Aside0.mk (hbox); have n2_ := Aside0.mk ((qcq : w.heap.size ≤ gb115)); have n3_ := Aside0.mk ((qcq : w.heap.size ≤ gb115)); clear HB; have HB := n0_; have BK115 := n1_; have GW115 := n2_; have GE115 := n3_; clear n0_ n1_ n2_ n3_; clear hb hbox hg; obtain ⟨hcz6_0, hcz6_1, hcz6_2, hcz6_3, hcz6_4, hcz6_5, hcz6_6, hcz6_7, hcz6_8, hcz6_9, hcz6_10, hcz6_11, hcz6_12, hcz6_13, hcz6_14, hcz6_15⟩ := cells16 BK115.out; obtain ⟨hfz6_0, hfz6_1, hfz6_2, hfz6_3, hfz6_4, hfz6_5, hfz6_6, hfz6_7, hfz6_8, hfz6_9, hfz6_10, hfz6_11, hfz6_12, hfz6_13, hfz6_14, hfz6_15⟩ := frozen16 BK115.out) | ((with_reducible refine gate_callee (f := 11) rfl ?_); refine goesL_ (some 11) rfl rfl Tryd.func11 qf rfl #[.agg #[.int .i64 a0_0, .bool a0_1, .bool a0_2, .bool a0_3, .bool a0_4, .bool a0_5, .bool a0_6, .int .i64 a0_7, .int .u64 a0_8, .int .i64 a0_9, .int .u64 a0_10, .int .i64 a0_11, .int .i64 a0_12, .int .i64 a0_13, .int .i64 a0_14, .int .i64 a0_15]] rfl qbi ?_; (with_reducible refine (bpdu_Check.calls k a0_0 a0_1 a0_2 a0_3 a0_4 a0_5 a0_6 a0_7 a0_8 a0_9 a0_10 a0_11 a0_12 a0_13 a0_14 a0_15 t116 _ A2.out).mono ?_); rintro e w7 ⟨rfl, hb⟩; refine ⟨_, rfl, ?_⟩; have n0_ := Aside0.mk (blk_below (g := gb115) qv hb); have n1_ := Aside0.mk (below_step qbl hb); clear BK115; clear HB; have BK115 := n0_; have HB := n1_; clear n0_ n1_; (try clear hb); (try clear hb2); (try clear hk); (try clear hi); obtain ⟨hcz8_0, hcz8_1, hcz8_2, hcz8_3, hcz8_4, hcz8_5, hcz8_6, hcz8_7, hcz8_8, hcz8_9, hcz8_10, hcz8_11, hcz8_12, hcz8_13, hcz8_14, hcz8_15⟩ := cells16 BK115.out; obtain ⟨hfz8_0, hfz8_1, hfz8_2, hfz8_3, hfz8_4, hfz8_5, hfz8_6, hfz8_7, hfz8_8, hfz8_9, hfz8_10, hfz8_11, hfz8_12, hfz8_13, hfz8_14, hfz8_15⟩ := frozen16 BK115.out))
   go_ret2
   exact ⟨by first | rfl | (simp [errW_none, errW_some] <;> rfl) | (simp [*, errW_none, errW_some] <;> rfl) | (simp [*, IntKind.wrap_u32]; done) | (simp_all [IntKind.wrap_u32]; done), by repeat (first | (with_reducible first | exact HB.out | apply below_alloc | apply pw_below_drewN | apply below_drew1 | refine below_set ?_ GE115.out) | exact HB.out)⟩
  ·rw [if_neg c4] at H
   have c4b0 : (a0_0 == 128) = false := beq_eq_false_iff_ne.mpr c4
   have c4b1 : (a0_0 != 128) = true := bne_iff_ne.mpr c4
   have HC9 := Aside0.mk H
   clear H
   go_enter Tryd.func8, Tryd.ntmps8
   go_upto_if 20 with (first | ((with_reducible refine gate_st (ty := 24) rfl ?_); refine storeC16 rfl rfl rfl rfl rfl qby qo qf rfl ?_) | ((with_reducible refine gate_ld (ty := 24) rfl ?_); (try (with_reducible refine gate_gd rfl ?_; refine gate_guard qc8 ?_; dsimp only)); refine load_st rfl rfl rfl qby qo Tryd.underlying24 rfl qf ?_; (try simp only [Act.put, List.setIfInBounds_toArray, List.set_cons_zero, List.set_cons_succ])) | ((with_reducible refine gate_dst (N := 1) rfl ?_); refine box_event ?hg (N := 1) ?hd (cs := #[.int .i64 a0_0, .bool a0_1, .bool a0_2, .bool a0_3, .bool a0_4, .bool a0_5, .bool a0_6, .int .i64 a0_7, .int .u64 a0_8, .int .i64 a0_9, .int .u64 a0_10, .int .i64 a0_11, .int .i64 a0_12, .int .i64 a0_13, .int .i64 a0_14, .int .i64 a0_15]) (t := 24) ?hr ?_; (case hd => rfl); (case hg => rfl); (case hr => first | (go_simp; done) | (go_simp; rfl)); intro gb115 hg w10 hbox hb; have n0_ := Aside0.mk (below_step qbh hb); have n1_ := Aside0.mk (hbox); have n2_ := Aside0.mk ((qcq : w.heap.size ≤ gb115)); have n3_ := Aside0.mk ((qcq : w.heap.size ≤ gb115)); clear HB; have HB := n0_; have BK115 := n1_; have GW115 := n2_; have GE115 := n3_; clear n0_ n1_ n2_ n3_; clear hb hbox hg; obtain ⟨hcz11_0, hcz11_1, hcz11_2, hcz11_3, hcz11_4, hcz11_5, hcz11_6, hcz11_7, hcz11_8, hcz11_9, hcz11_10, hcz11_11, hcz11_12, hcz11_13, hcz11_14, hcz11_15⟩ := cells16 BK115.out; obtain ⟨hfz11_0, hfz11_1, hfz11_2, hfz11_3, hfz11_4, hfz11_5, hfz11_6, hfz11_7, hfz11_8, hfz11_9, hfz11_10, hfz11_11, hfz11_12, hfz11_13, hfz11_14, hfz11_15⟩ := frozen16 BK115.out) | ((with_reducible refine gate_callee (f := 11) rfl ?_); refine goesL_ (some 11) rfl rfl Tryd.func11 qf rfl #[.agg #[.int .i64 a0_0, .bool a0_1, .bool a0_2, .bool a0_3, .bool a0_4, .bool a0_5, .bool a0_6, .int .i64 a0_7, .int .u64 a0_8, .int .i64 a0_9, .int .u64 a0_10, .int .i64 a0_11, .int .i64 a0_12, .int .i64 a0_13, .int .i64 a0_14, .int .i64 a0_15]] rfl qbi ?_; (with_reducible refine (bpdu_Check.calls k a0_0 a0_1 a0_2 a0_3 a0_4 a0_5 a0_6 a0_7 a0_8 a0_9 a0_10 a0_11 a0_12 a0_13 a0_14 a0_15 t116 _ A2.out).mono ?_); rintro e w12 ⟨rfl, hb⟩; refine ⟨_, rfl, ?_⟩; have n0_ := Aside0.mk (blk_below (g := gb115) qv hb); have n1_ := Aside0.mk (below_step qbl hb); clear BK115; clear HB; have BK115 := n0_; have HB := n1_; clear n0_ n1_; (try clear hb); (try clear hb2); (try clear hk); (try clear hi); obtain ⟨hcz13_0, hcz13_1, hcz13_2, hcz13_3, hcz13_4, hcz13_5, hcz13_6, hcz13_7, hcz13_8, hcz13_9, hcz13_10, hcz13_11, hcz13_12, hcz13_13, hcz13_14, hcz13_15⟩ := cells16 BK115.out; obtain ⟨hfz13_0, hfz13_1, hfz13_2, hfz13_3, hfz13_4, hfz13_5, hfz13_6, hfz13_7, hfz13_8, hfz13_9, hfz13_10, hfz13_11, hfz13_12, hfz13_13, hfz13_14, hfz13_15⟩ := frozen16 BK115.out))
   (try simp only [Act.put, List.setIfInBounds_toArray, List.set_cons_zero, List.set_cons_succ])
   go_cut [5, 6] (fun v5 v6 wc => ∃ (kq : Nat) (x5_8 : ByteArray) (x6_8 : ByteArray), v5 = .string x5_8 ∧ v6 = .string x6_8 ∧ Aside0 (bpdu_Build.j0 kq x5_8 x6_8 a0_0 a0_1 a0_2 a0_3 a0_4 a0_5 a0_6 a0_7 a0_8 a0_9 a0_10 a0_11 a0_12 a0_13 a0_14 a0_15 = some (r1, r2)) ∧ Aside0 (kq ≤ k) ∧ Aside0 (wc.heap[gb115]? = some (.cells #[.int .i64 a0_0, .bool a0_1, .bool a0_2, .bool a0_3, .bool a0_4, .bool a0_5, .bool a0_6, .int .i64 a0_7, .int .u64 a0_8, .int .i64 a0_9, .int .u64 a0_10, .int .i64 a0_11, .int .i64 a0_12, .int .i64 a0_13, .int .i64 a0_14, .int .i64 a0_15] 24 (0, 0))) ∧ Aside0 (Below w.heap.size w wc))
   case first =>
    have H := HC9.out
    clear HC9
    by_cases c14 : a0_0 = 2
    ·rw [if_pos c14] at H
     have c14b0 : (a0_0 == 2) = true := beq_iff_eq.mpr c14
     have c14b1 : (a0_0 != 2) = false := bne_eq_false_iff_eq.mpr c14
     clear c14
     (first | rw [c14b0] | (simp only [i64_w, i32_w]; rw [c14b0]) | skip)
     have H' := Aside0.mk H
     clear H
     go_wp2_with (first | ((with_reducible refine gate_st (ty := 24) rfl ?_); refine storeC16 rfl rfl rfl rfl rfl qby qo qf rfl ?_) | ((with_reducible refine gate_ld (ty := 24) rfl ?_); (try (with_reducible refine gate_gd rfl ?_; refine gate_guard qc8 ?_; dsimp only)); refine load_st rfl rfl rfl qby qo Tryd.underlying24 rfl qf ?_; (try simp only [Act.put, List.setIfInBounds_toArray, List.set_cons_zero, List.set_cons_succ])) | go_in)
     go_meet
     case rel => exact ⟨_, ((⟨#[2, 2]⟩ : ByteArray)), ((⟨#[0]⟩ : ByteArray)), qk, qk, H', ⟨by first | omega | exact Nat.le_refl _⟩, ⟨by (with_reducible repeat (first | refine blk_drewN ?_ _ | refine blk_drew ?_ | refine blk_alloc ?_ _)); exact BK115.out⟩, ⟨by repeat (first | (with_reducible first | exact HB.out | apply below_alloc | apply pw_below_drewN | apply below_drew1 | refine below_set ?_ GE115.out) | exact HB.out)⟩⟩
    ·rw [if_neg c14] at H
     have c14b0 : (a0_0 == 2) = false := beq_eq_false_iff_ne.mpr c14
     have c14b1 : (a0_0 != 2) = true := bne_iff_ne.mpr c14
     (first | rw [c14b0] | (simp only [i64_w, i32_w]; rw [c14b0]) | skip)
     have H' := Aside0.mk H
     clear H
     go_wp2_with (first | ((with_reducible refine gate_st (ty := 24) rfl ?_); refine storeC16 rfl rfl rfl rfl rfl qby qo qf rfl ?_) | ((with_reducible refine gate_ld (ty := 24) rfl ?_); (try (with_reducible refine gate_gd rfl ?_; refine gate_guard qc8 ?_; dsimp only)); refine load_st rfl rfl rfl qby qo Tryd.underlying24 rfl qf ?_; (try simp only [Act.put, List.setIfInBounds_toArray, List.set_cons_zero, List.set_cons_succ])) | go_in)
     go_meet
     case rel => exact ⟨_, ((⟨#[0, 0]⟩ : ByteArray)), ((⟨#[]⟩ : ByteArray)), qk, qk, H', ⟨by first | omega | exact Nat.le_refl _⟩, ⟨by (with_reducible repeat (first | refine blk_drewN ?_ _ | refine blk_drew ?_ | refine blk_alloc ?_ _)); exact BK115.out⟩, ⟨by repeat (first | (with_reducible first | exact HB.out | apply below_alloc | apply pw_below_drewN | apply below_drew1 | refine below_set ?_ GE115.out) | exact HB.out)⟩⟩
   case rest =>
    clear HC9
    try clear c1
    try clear p2
    try clear c3
    try clear c3b0
    try clear c3b1
    try clear c4
    try clear c4b0
    try clear c4b1
    try clear c8
    try clear c11
    try clear c14
    try clear c14b0
    try clear c14b1
    obtain ⟨kq, x5_8, x6_8, rfl, rfl, HA, HJ8, BK115, HB⟩ := hcut
    cases kq with
    | zero => exact absurd HA.out (by simp [bpdu_Build.j0])
    | succ kj8 =>
     have H := HA.out
     clear HA
     simp only [bpdu_Build.j0] at H
     by_cases c15 : 5 + x5_8.size ≤ 9223372036854775807
     ·rw [if_pos c15] at H
      have c15b0 := eq_true c15
      have c15b1 : decide (5 + x5_8.size ≤ 9223372036854775807) = true := decide_eq_true c15
      try have c15b2 : (9223372036854775807 < 5 + x5_8.size) = False := eq_false (Nat.not_lt.2 c15)
      replace H := Option.bind_eq_some_iff.mp H
      obtain ⟨t117, A160, H⟩ := H
      try dsimp only at H
      have A16 := Aside0.mk A160
      clear A160
      obtain ⟨y118, hy118⟩ : ∃ y_ : List Int, y_ = (([t117] : List Int)) := ⟨_, rfl⟩
      replace H : (if ((⟨#[66, 66, 3, 0, 0]⟩ : ByteArray) ++ x5_8).size + (strOfNums y118).size ≤ 9223372036854775807 then ((bpdu_put.f kj8 a0_8 8).bind fun t121 => (if (((⟨#[66, 66, 3, 0, 0]⟩ : ByteArray) ++ x5_8) ++ (strOfNums y118)).size + t121.size ≤ 9223372036854775807 then ((bpdu_put.f kj8 (IntKind.u64.wrap (a0_9)) 4).bind fun t122 => (if ((((⟨#[66, 66, 3, 0, 0]⟩ : ByteArray) ++ x5_8) ++ (strOfNums y118)) ++ t121).size + t122.size ≤ 9223372036854775807 then ((bpdu_put.f kj8 a0_10 8).bind fun t123 => (if (((((⟨#[66, 66, 3, 0, 0]⟩ : ByteArray) ++ x5_8) ++ (strOfNums y118)) ++ t121) ++ t122).size + t123.size ≤ 9223372036854775807 then ((bpdu_put.f kj8 (IntKind.u64.wrap (a0_11)) 2).bind fun t124 => (if ((((((⟨#[66, 66, 3, 0, 0]⟩ : ByteArray) ++ x5_8) ++ (strOfNums y118)) ++ t121) ++ t122) ++ t123).size + t124.size ≤ 9223372036854775807 then ((some (([a0_12, a0_13, a0_14, a0_15] : List Int) : List Int)).bind fun y125 => (bpdu_Build.l0 kj8 x6_8 (((((((⟨#[66, 66, 3, 0, 0]⟩ : ByteArray) ++ x5_8) ++ (strOfNums y118)) ++ t121) ++ t122) ++ t123) ++ t124) y125 (y125.length : Int) 0)) else (none))) else (none))) else (none))) else (none))) else (none)) = some (r1, r2) := by first | (rw [hy118]; with_reducible exact H) | (have H2_ := (Option.bind_some _ _).symm.trans H; rw [hy118]; with_reducible exact H2_) | (have H2_ := (Option.bind_some _ _).symm.trans H; with_reducible exact H2_) | with_reducible exact H | (rw [hy118]; exact H) | exact H
      have Ny118 := Aside0.mk hy118
      clear hy118
      by_cases c17 : ((⟨#[66, 66, 3, 0, 0]⟩ : ByteArray) ++ x5_8).size + (strOfNums y118).size ≤ 9223372036854775807
      ·rw [if_pos c17] at H
       have c17b0 := eq_true c17
       have c17b1 : decide (((⟨#[66, 66, 3, 0, 0]⟩ : ByteArray) ++ x5_8).size + (strOfNums y118).size ≤ 9223372036854775807) = true := decide_eq_true c17
       have c17z := c17
       simp only [ByteArray.size_append] at c17z
       have c17z1 := eq_true c17z
       have c17z2 := eq_false (Nat.not_lt.2 c17z)
       try (have c17l := c17z; simp only [show (⟨#[0]⟩ : ByteArray).size = 1 from rfl, show (⟨#[2, 2]⟩ : ByteArray).size = 2 from rfl, show (⟨#[0, 0]⟩ : ByteArray).size = 2 from rfl, show (⟨#[66, 66, 3, 0, 0]⟩ : ByteArray).size = 5 from rfl, show (⟨#[66, 66, 3, 0, 0, 0, 128]⟩ : ByteArray).size = 7 from rfl, Nat.reduceAdd] at c17l; have c17l1 := eq_true c17l; have c17l2 := eq_false (Nat.not_lt.2 c17l))
       try have c17b2 : (9223372036854775807 < ((⟨#[66, 66, 3, 0, 0]⟩ : ByteArray) ++ x5_8).size + (strOfNums y118).size) = False := eq_false (Nat.not_lt.2 c17)
       replace H := Option.bind_eq_some_iff.mp H
       obtain ⟨t121, A180, H⟩ := H
       try dsimp only at H
       have A18 := Aside0.mk A180
       clear A180
       by_cases c19 : (((⟨#[66, 66, 3, 0, 0]⟩ : ByteArray) ++ x5_8) ++ (strOfNums y118)).size + t121.size ≤ 9223372036854775807
       ·rw [if_pos c19] at H
        have c19b0 := eq_true c19
        have c19b1 : decide ((((⟨#[66, 66, 3, 0, 0]⟩ : ByteArray) ++ x5_8) ++ (strOfNums y118)).size + t121.size ≤ 9223372036854775807) = true := decide_eq_true c19
        have c19z := c19
        simp only [ByteArray.size_append] at c19z
        have c19z1 := eq_true c19z
        have c19z2 := eq_false (Nat.not_lt.2 c19z)
        try (have c19l := c19z; simp only [show (⟨#[0]⟩ : ByteArray).size = 1 from rfl, show (⟨#[2, 2]⟩ : ByteArray).size = 2 from rfl, show (⟨#[0, 0]⟩ : ByteArray).size = 2 from rfl, show (⟨#[66, 66, 3, 0, 0]⟩ : ByteArray).size = 5 from rfl, show (⟨#[66, 66, 3, 0, 0, 0, 128]⟩ : ByteArray).size = 7 from rfl, Nat.reduceAdd] at c19l; have c19l1 := eq_true c19l; have c19l2 := eq_false (Nat.not_lt.2 c19l))
        try have c19b2 : (9223372036854775807 < (((⟨#[66, 66, 3, 0, 0]⟩ : ByteArray) ++ x5_8) ++ (strOfNums y118)).size + t121.size) = False := eq_false (Nat.not_lt.2 c19)
        replace H := Option.bind_eq_some_iff.mp H
        obtain ⟨t122, A200, H⟩ := H
        try dsimp only at H
        have A20 := Aside0.mk A200
        clear A200
        by_cases c21 : ((((⟨#[66, 66, 3, 0, 0]⟩ : ByteArray) ++ x5_8) ++ (strOfNums y118)) ++ t121).size + t122.size ≤ 9223372036854775807
        ·rw [if_pos c21] at H
         have c21b0 := eq_true c21
         have c21b1 : decide (((((⟨#[66, 66, 3, 0, 0]⟩ : ByteArray) ++ x5_8) ++ (strOfNums y118)) ++ t121).size + t122.size ≤ 9223372036854775807) = true := decide_eq_true c21
         have c21z := c21
         simp only [ByteArray.size_append] at c21z
         have c21z1 := eq_true c21z
         have c21z2 := eq_false (Nat.not_lt.2 c21z)
         try (have c21l := c21z; simp only [show (⟨#[0]⟩ : ByteArray).size = 1 from rfl, show (⟨#[2, 2]⟩ : ByteArray).size = 2 from rfl, show (⟨#[0, 0]⟩ : ByteArray).size = 2 from rfl, show (⟨#[66, 66, 3, 0, 0]⟩ : ByteArray).size = 5 from rfl, show (⟨#[66, 66, 3, 0, 0, 0, 128]⟩ : ByteArray).size = 7 from rfl, Nat.reduceAdd] at c21l; have c21l1 := eq_true c21l; have c21l2 := eq_false (Nat.not_lt.2 c21l))
         try have c21b2 : (9223372036854775807 < ((((⟨#[66, 66, 3, 0, 0]⟩ : ByteArray) ++ x5_8) ++ (strOfNums y118)) ++ t121).size + t122.size) = False := eq_false (Nat.not_lt.2 c21)
         replace H := Option.bind_eq_some_iff.mp H
         obtain ⟨t123, A220, H⟩ := H
         try dsimp only at H
         have A22 := Aside0.mk A220
         clear A220
         by_cases c23 : (((((⟨#[66, 66, 3, 0, 0]⟩ : ByteArray) ++ x5_8) ++ (strOfNums y118)) ++ t121) ++ t122).size + t123.size ≤ 9223372036854775807
         ·rw [if_pos c23] at H
          have c23b0 := eq_true c23
          have c23b1 : decide ((((((⟨#[66, 66, 3, 0, 0]⟩ : ByteArray) ++ x5_8) ++ (strOfNums y118)) ++ t121) ++ t122).size + t123.size ≤ 9223372036854775807) = true := decide_eq_true c23
          have c23z := c23
          simp only [ByteArray.size_append] at c23z
          have c23z1 := eq_true c23z
          have c23z2 := eq_false (Nat.not_lt.2 c23z)
          try (have c23l := c23z; simp only [show (⟨#[0]⟩ : ByteArray).size = 1 from rfl, show (⟨#[2, 2]⟩ : ByteArray).size = 2 from rfl, show (⟨#[0, 0]⟩ : ByteArray).size = 2 from rfl, show (⟨#[66, 66, 3, 0, 0]⟩ : ByteArray).size = 5 from rfl, show (⟨#[66, 66, 3, 0, 0, 0, 128]⟩ : ByteArray).size = 7 from rfl, Nat.reduceAdd] at c23l; have c23l1 := eq_true c23l; have c23l2 := eq_false (Nat.not_lt.2 c23l))
          try have c23b2 : (9223372036854775807 < (((((⟨#[66, 66, 3, 0, 0]⟩ : ByteArray) ++ x5_8) ++ (strOfNums y118)) ++ t121) ++ t122).size + t123.size) = False := eq_false (Nat.not_lt.2 c23)
          replace H := Option.bind_eq_some_iff.mp H
          obtain ⟨t124, A240, H⟩ := H
          try dsimp only at H
          have A24 := Aside0.mk A240
          clear A240
          by_cases c25 : ((((((⟨#[66, 66, 3, 0, 0]⟩ : ByteArray) ++ x5_8) ++ (strOfNums y118)) ++ t121) ++ t122) ++ t123).size + t124.size ≤ 9223372036854775807
          ·rw [if_pos c25] at H
           have c25b0 := eq_true c25
           have c25b1 : decide (((((((⟨#[66, 66, 3, 0, 0]⟩ : ByteArray) ++ x5_8) ++ (strOfNums y118)) ++ t121) ++ t122) ++ t123).size + t124.size ≤ 9223372036854775807) = true := decide_eq_true c25
           have c25z := c25
           simp only [ByteArray.size_append] at c25z
           have c25z1 := eq_true c25z
           have c25z2 := eq_false (Nat.not_lt.2 c25z)
           try (have c25l := c25z; simp only [show (⟨#[0]⟩ : ByteArray).size = 1 from rfl, show (⟨#[2, 2]⟩ : ByteArray).size = 2 from rfl, show (⟨#[0, 0]⟩ : ByteArray).size = 2 from rfl, show (⟨#[66, 66, 3, 0, 0]⟩ : ByteArray).size = 5 from rfl, show (⟨#[66, 66, 3, 0, 0, 0, 128]⟩ : ByteArray).size = 7 from rfl, Nat.reduceAdd] at c25l; have c25l1 := eq_true c25l; have c25l2 := eq_false (Nat.not_lt.2 c25l))
           try have c25b2 : (9223372036854775807 < ((((((⟨#[66, 66, 3, 0, 0]⟩ : ByteArray) ++ x5_8) ++ (strOfNums y118)) ++ t121) ++ t122) ++ t123).size + t124.size) = False := eq_false (Nat.not_lt.2 c25)
           obtain ⟨y125, hy125⟩ : ∃ y_ : List Int, y_ = (([a0_12, a0_13, a0_14, a0_15] : List Int)) := ⟨_, rfl⟩
           replace H : (bpdu_Build.l0 kj8 x6_8 (((((((⟨#[66, 66, 3, 0, 0]⟩ : ByteArray) ++ x5_8) ++ (strOfNums y118)) ++ t121) ++ t122) ++ t123) ++ t124) y125 (y125.length : Int) 0) = some (r1, r2) := by first | (rw [hy125]; with_reducible exact H) | (have H2_ := (Option.bind_some _ _).symm.trans H; rw [hy125]; with_reducible exact H2_) | (have H2_ := (Option.bind_some _ _).symm.trans H; with_reducible exact H2_) | with_reducible exact H | (rw [hy125]; exact H) | exact H
           have Ny125 := Aside0.mk hy125
           clear hy125
           have H' := Aside0.mk H
           clear H
           try go_wp2_with (first | ((with_reducible refine gate_st (ty := 24) rfl ?_); refine storeC16 rfl rfl rfl rfl rfl qby qo qf rfl ?_) | ((with_reducible refine gate_ld (ty := 24) rfl ?_); (try (with_reducible refine gate_gd rfl ?_; refine gate_guard qc8 ?_; dsimp only)); refine load_st rfl rfl rfl qby qo Tryd.underlying24 rfl qf ?_; (try simp only [Act.put, List.setIfInBounds_toArray, List.set_cons_zero, List.set_cons_succ])) | go_in)
           have n0_ := Aside0.mk (blk_drew BK115.out)
           have n1_ := Aside0.mk (below_drew1 HB.out)
           clear BK115
           clear HB
           have BK115 := n0_
           have HB := n1_
           clear n0_ n1_
           refine start_ (n := 26) (S := fun w' => True) (ds := []) #[false, false, false, false, false, false, false, false, false, false, false, false, false, false, false, false, false, false, false, false, false, false, false, false, false, false] qf rfl rfl trivial (fun hHeld => ?_); refine with_tabW bpdu_Build.tab9 bpdu_Build.bits9 (fun HT_ HW_ => ?_)
           generalize wc.drew = w26 at BK115 HB hHeld ⊢
           refine pure_ (i := 0) (N := some 21) (v := ?_) (a' := ?_) #[true, false, false, false, false, false, false, false, false, false, false, false, false, false, false, false, false, false, false, false, false, false, false, false, false, false] rfl rfl (any_of HT_.out qf) (fun _ _ _ h => h) (Or.inl ⟨by rfl, ?_⟩) ?_ ?_
           rotate_left
           ·intro w'
            go_simp
            with_reducible rfl
           rotate_left
           ·exact z8_1
           refine pure_ (i := 7) (N := some 28) (v := ?_) (a' := ?_) #[true, false, false, false, false, false, false, true, false, false, false, false, false, false, false, false, false, false, false, false, false, false, false, false, false, false] rfl rfl (any_of HT_.out qf) (fun _ _ _ h => h) (Or.inl ⟨by rfl, ?_⟩) ?_ ?_
           rotate_left
           ·intro w'
            go_simp
            with_reducible rfl
           rotate_left
           ·exact z8_1
           refine pure_ (i := 11) (N := some 32) (v := ?_) (a' := ?_) #[true, false, false, false, false, false, false, true, false, false, false, true, false, false, false, false, false, false, false, false, false, false, false, false, false, false] rfl rfl (any_of HT_.out qf) (fun _ _ _ h => h) (Or.inl ⟨by rfl, ?_⟩) ?_ ?_
           rotate_left
           ·intro w'
            go_simp
            with_reducible rfl
           rotate_left
           ·exact z8_1
           refine pure_ (i := 16) (N := some 37) (v := ?_) (a' := ?_) #[true, false, false, false, false, false, false, true, false, false, false, true, false, false, false, false, true, false, false, false, false, false, false, false, false, false] rfl rfl (any_of HT_.out qf) (fun _ _ _ h => h) (Or.inl ⟨by rfl, ?_⟩) ?_ ?_
           rotate_left
           ·intro w'
            go_simp
            with_reducible rfl
           rotate_left
           ·exact z8_1
           refine pure_ (i := 20) (N := some 41) (v := ?_) (a' := ?_) #[true, false, false, false, false, false, false, true, false, false, false, true, false, false, false, false, true, false, false, false, true, false, false, false, false, false] rfl rfl (any_of HT_.out qf) (fun _ _ _ h => h) (Or.inl ⟨by rfl, ?_⟩) ?_ ?_
           rotate_left
           ·intro w'
            go_simp
            with_reducible rfl
           rotate_left
           ·exact z8_1
           refine inv_at [1, 2, 3, 4, 5, 6, 8, 9, 10, 12, 13, 14, 15, 17, 18, 19, 21, 22, 23, 24, 25] (fun a0_ b a w' => ∃ (v119 : Value), a = putSel a0_ b [(1, 22, .string ((⟨#[66, 66, 3, 0, 0]⟩ : ByteArray) ++ x5_8)), (2, 23, .agg #[.int .i64 a0_0, .bool a0_1, .bool a0_2, .bool a0_3, .bool a0_4, .bool a0_5, .bool a0_6, .int .i64 a0_7, .int .u64 a0_8, .int .i64 a0_9, .int .u64 a0_10, .int .i64 a0_11, .int .i64 a0_12, .int .i64 a0_13, .int .i64 a0_14, .int .i64 a0_15]), (3, 24, .int .u8 t117), (4, 25, v119), (5, 26, .string (strOfNums y118)), (6, 27, .string (((⟨#[66, 66, 3, 0, 0]⟩ : ByteArray) ++ x5_8) ++ (strOfNums y118))), (8, 29, .int .u64 a0_8), (9, 30, .string t121), (10, 31, .string ((((⟨#[66, 66, 3, 0, 0]⟩ : ByteArray) ++ x5_8) ++ (strOfNums y118)) ++ t121)), (12, 33, .int .i64 a0_9), (13, 34, .int .u64 (IntKind.u64.wrap (a0_9))), (14, 35, .string t122), (15, 36, .string (((((⟨#[66, 66, 3, 0, 0]⟩ : ByteArray) ++ x5_8) ++ (strOfNums y118)) ++ t121) ++ t122)), (17, 38, .int .u64 a0_10), (18, 39, .string t123), (19, 40, .string ((((((⟨#[66, 66, 3, 0, 0]⟩ : ByteArray) ++ x5_8) ++ (strOfNums y118)) ++ t121) ++ t122) ++ t123)), (21, 42, .int .i64 a0_11), (22, 43, .int .u64 (IntKind.u64.wrap (a0_11))), (23, 44, .string t124), (24, 45, .string (((((((⟨#[66, 66, 3, 0, 0]⟩ : ByteArray) ++ x5_8) ++ (strOfNums y118)) ++ t121) ++ t122) ++ t123) ++ t124)), (25, 7, .string (((((((⟨#[66, 66, 3, 0, 0]⟩ : ByteArray) ++ x5_8) ++ (strOfNums y118)) ++ t121) ++ t122) ++ t123) ++ t124))] ∧ (w'.heap[gb115]? = some (.cells #[.int .i64 a0_0, .bool a0_1, .bool a0_2, .bool a0_3, .bool a0_4, .bool a0_5, .bool a0_6, .int .i64 a0_7, .int .u64 a0_8, .int .i64 a0_9, .int .u64 a0_10, .int .i64 a0_11, .int .i64 a0_12, .int .i64 a0_13, .int .i64 a0_14, .int .i64 a0_15] 24 (0, 0))) ∧ (Below w.heap.size w w') ∧ (b 4 = true → Kd.R (Kd.int .u8) 5 w' w.heap.size (fun _ => True) v119 y118)) HT_.out HW_.out qf qf ?_ ?_ ?_
           ·exact ⟨.bool false, by simp only [putSel, Bool.false_eq_true, if_false], BK115.out, HB.out, fun h_ => absurd h_ qd⟩
           ·skip
            clear BK115 HB
            refine steps_cons ?_ ?_
            ·rintro b a w' ⟨v119, ha, Q_BK115, Q_HB, Q_HO120⟩ hb_ hon hoff
             refine ⟨_, rfl, fun K hK => ?_⟩
             have e21 : a.tmps[21]? = some (.string x5_8) := by rw [ha]; exact (putSel_off rfl).trans rfl
             replace ha := Aside0.mk ha
             have BK115 := Aside0.mk Q_BK115
             have HB := Aside0.mk Q_HB
             refine value_ (w1 := w') (v := .string ((⟨#[66, 66, 3, 0, 0]⟩ : ByteArray) ++ x5_8)) qa rfl ?_ ?_
             ·exact z8_0
             refine hK.out _ _ ⟨v119, (by rw [ha.out]; exact putSel_upk 0 hb_ rfl rfl rfl), Q_BK115, Q_HB, Q_HO120⟩
            refine steps_cons ?_ ?_
            ·rintro b a w' ⟨v119, ha, Q_BK115, Q_HB, Q_HO120⟩ hb_ hon hoff
             refine ⟨_, rfl, fun K hK => ?_⟩
             have e1 : a.tmps[1]? = some (.pointer (some ⟨gb115, 0, none⟩)) := by rw [ha]; exact (putSel_off rfl).trans rfl
             replace ha := Aside0.mk ha
             have BK115 := Aside0.mk Q_BK115
             have HB := Aside0.mk Q_HB
             have hc0_ : w'.cell? ⟨gb115, 0, none⟩ = some (.int .i64 a0_0) := (blk_cell BK115.out 0).trans rfl
             have hc1_ : w'.cell? ⟨gb115, 1, none⟩ = some (.bool a0_1) := (blk_cell BK115.out 1).trans rfl
             have hc2_ : w'.cell? ⟨gb115, 2, none⟩ = some (.bool a0_2) := (blk_cell BK115.out 2).trans rfl
             have hc3_ : w'.cell? ⟨gb115, 3, none⟩ = some (.bool a0_3) := (blk_cell BK115.out 3).trans rfl
             have hc4_ : w'.cell? ⟨gb115, 4, none⟩ = some (.bool a0_4) := (blk_cell BK115.out 4).trans rfl
             have hc5_ : w'.cell? ⟨gb115, 5, none⟩ = some (.bool a0_5) := (blk_cell BK115.out 5).trans rfl
             have hc6_ : w'.cell? ⟨gb115, 6, none⟩ = some (.bool a0_6) := (blk_cell BK115.out 6).trans rfl
             have hc7_ : w'.cell? ⟨gb115, 7, none⟩ = some (.int .i64 a0_7) := (blk_cell BK115.out 7).trans rfl
             have hc8_ : w'.cell? ⟨gb115, 8, none⟩ = some (.int .u64 a0_8) := (blk_cell BK115.out 8).trans rfl
             have hc9_ : w'.cell? ⟨gb115, 9, none⟩ = some (.int .i64 a0_9) := (blk_cell BK115.out 9).trans rfl
             have hc10_ : w'.cell? ⟨gb115, 10, none⟩ = some (.int .u64 a0_10) := (blk_cell BK115.out 10).trans rfl
             have hc11_ : w'.cell? ⟨gb115, 11, none⟩ = some (.int .i64 a0_11) := (blk_cell BK115.out 11).trans rfl
             have hc12_ : w'.cell? ⟨gb115, 12, none⟩ = some (.int .i64 a0_12) := (blk_cell BK115.out 12).trans rfl
             have hc13_ : w'.cell? ⟨gb115, 13, none⟩ = some (.int .i64 a0_13) := (blk_cell BK115.out 13).trans rfl
             have hc14_ : w'.cell? ⟨gb115, 14, none⟩ = some (.int .i64 a0_14) := (blk_cell BK115.out 14).trans rfl
             have hc15_ : w'.cell? ⟨gb115, 15, none⟩ = some (.int .i64 a0_15) := (blk_cell BK115.out 15).trans rfl
             refine value_ (w1 := w') (v := .agg #[.int .i64 a0_0, .bool a0_1, .bool a0_2, .bool a0_3, .bool a0_4, .bool a0_5, .bool a0_6, .int .i64 a0_7, .int .u64 a0_8, .int .i64 a0_9, .int .u64 a0_10, .int .i64 a0_11, .int .i64 a0_12, .int .i64 a0_13, .int .i64 a0_14, .int .i64 a0_15]) qa rfl ?_ ?_
             ·exact z8_0
             refine hK.out _ _ ⟨v119, (by rw [ha.out]; exact putSel_upk 1 hb_ rfl rfl rfl), Q_BK115, Q_HB, fun h0_ => absurd ((hoff 4 qf).symm.trans h0_) qd⟩
            refine steps_cons ?_ ?_
            ·rintro b a w' ⟨v119, ha, Q_BK115, Q_HB, Q_HO120⟩ hb_ hon hoff
             refine ⟨_, rfl, fun K hK => ?_⟩
             have e23 : a.tmps[23]? = some (.agg #[.int .i64 a0_0, .bool a0_1, .bool a0_2, .bool a0_3, .bool a0_4, .bool a0_5, .bool a0_6, .int .i64 a0_7, .int .u64 a0_8, .int .i64 a0_9, .int .u64 a0_10, .int .i64 a0_11, .int .i64 a0_12, .int .i64 a0_13, .int .i64 a0_14, .int .i64 a0_15]) := by rw [ha]; exact putSel_on (e := (2, 23, .agg #[.int .i64 a0_0, .bool a0_1, .bool a0_2, .bool a0_3, .bool a0_4, .bool a0_5, .bool a0_6, .int .i64 a0_7, .int .u64 a0_8, .int .i64 a0_9, .int .u64 a0_10, .int .i64 a0_11, .int .i64 a0_12, .int .i64 a0_13, .int .i64 a0_14, .int .i64 a0_15])) 1 rfl rfl (hon 2 qf) rfl
             replace ha := Aside0.mk ha
             have BK115 := Aside0.mk Q_BK115
             have HB := Aside0.mk Q_HB
             refine goes_ Tryd.func19 qf rfl #[.agg #[.int .i64 a0_0, .bool a0_1, .bool a0_2, .bool a0_3, .bool a0_4, .bool a0_5, .bool a0_6, .int .i64 a0_7, .int .u64 a0_8, .int .i64 a0_9, .int .u64 a0_10, .int .i64 a0_11, .int .i64 a0_12, .int .i64 a0_13, .int .i64 a0_14, .int .i64 a0_15]] qcx rfl rfl (by first | (simp only [List.map_toArray, List.map_cons, List.map_nil, Act.eval, Array.getD_eq_getD_getElem?, Option.getD_some, e23]; done) | (simp only [List.map_toArray, List.map_cons, List.map_nil, Act.eval, Array.getD_eq_getD_getElem?, Option.getD_some, e23]; rfl)) ?_
             with_reducible refine (bpdu_flags.calls a0_0 a0_1 a0_2 a0_3 a0_4 a0_5 a0_6 a0_7 a0_8 a0_9 a0_10 a0_11 a0_12 a0_13 a0_14 a0_15 t117 _ A16.out).mono ?_
             rintro e w27 ⟨rfl, hb⟩
             refine ⟨_, rfl, ?_⟩
             have n0_ := Aside0.mk (blk_below (g := gb115) (o := .cells #[.int .i64 a0_0, .bool a0_1, .bool a0_2, .bool a0_3, .bool a0_4, .bool a0_5, .bool a0_6, .int .i64 a0_7, .int .u64 a0_8, .int .i64 a0_9, .int .u64 a0_10, .int .i64 a0_11, .int .i64 a0_12, .int .i64 a0_13, .int .i64 a0_14, .int .i64 a0_15] 24 (0, 0)) qv hb)
             have n1_ := Aside0.mk (below_step qbl hb)
             clear BK115
             clear HB
             have BK115 := n0_
             have HB := n1_
             clear n0_ n1_
             (try clear hb)
             (try clear hb2)
             (try clear hk)
             (try clear hi)
             refine hK.out _ _ ⟨v119, (by rw [ha.out]; exact putSel_upk 2 hb_ rfl rfl rfl), qv, qbl, fun h0_ => absurd ((hoff 4 qf).symm.trans h0_) qd⟩
            refine steps_cons ?_ ?_
            ·rintro b a w' ⟨v119, ha, Q_BK115, Q_HB, Q_HO120⟩ hb_ hon hoff
             refine ⟨_, rfl, fun K hK => ?_⟩
             have e24 : a.tmps[24]? = some (.int .u8 t117) := by rw [ha]; exact putSel_on (e := (3, 24, .int .u8 t117)) 2 rfl rfl (hon 3 qf) rfl
             replace ha := Aside0.mk ha
             have BK115 := Aside0.mk Q_BK115
             have HB := Aside0.mk Q_HB
             refine Kd.R_lit_step (Kd.int .u8) _ 5 ?hg (N := 25) ?hd (xs := ([t117] : List Int)) (inner := [.int .u8 t117]) (ok := fun _ => True) (okp := fun _ => True) ?hr ?hp (fun _ hk => hk) trivial (Below.refl _ _) (Nat.le_refl _) qb ?_; (case hd => rfl); (case hg => rfl); (case hr => first | (go_simp; done) | (go_simp; rfl)); (case hp => exact (Reps.one (show Kd.M (Kd.int .u8) _ _ _ t117 [.int .u8 t117] from rfl) (Reps.none _ _)))
             intro v119 w29 ho30 hb hg_ hnew_
             clear hg_ hnew_
             (first | rw [← Ny118.out] at ho30 | (simp only [Int.reduceToNat] at ho30; rw [← Ny118.out] at ho30))
             have n0_ := Aside0.mk (Kd.R_lower ho30 (below_size qbl))
             have n1_ := Aside0.mk (blk_below (g := gb115) (o := .cells #[.int .i64 a0_0, .bool a0_1, .bool a0_2, .bool a0_3, .bool a0_4, .bool a0_5, .bool a0_6, .int .i64 a0_7, .int .u64 a0_8, .int .i64 a0_9, .int .u64 a0_10, .int .i64 a0_11, .int .i64 a0_12, .int .i64 a0_13, .int .i64 a0_14, .int .i64 a0_15] 24 (0, 0)) qv hb)
             have n2_ := Aside0.mk (below_step qbl hb)
             clear BK115
             clear HB
             have HO120 := n0_
             have BK115 := n1_
             have HB := n2_
             clear n0_ n1_ n2_
             clear hb ho30
             refine hK.out _ _ ⟨v119, (by rw [ha.out]; exact putSel_upk 3 hb_ rfl rfl rfl), qv, qbl, fun _ => (by (with_reducible repeat (first | apply Kd.R_alloc | apply Kd.R_drewN | apply Kd.R_drew)); exact HO120.out)⟩
            refine steps_cons ?_ ?_
            ·rintro b a w' ⟨v119, ha, Q_BK115, Q_HB, Q_HO120⟩ hb_ hon hoff
             refine ⟨_, rfl, fun K hK => ?_⟩
             have e25 : a.tmps[25]? = some (v119) := by rw [ha]; exact putSel_on (e := (4, 25, v119)) 3 rfl rfl (hon 4 qf) rfl
             replace ha := Aside0.mk ha
             have BK115 := Aside0.mk Q_BK115
             have HB := Aside0.mk Q_HB
             have HO120 := Aside0.mk (Q_HO120 (hon 4 qf))
             obtain ⟨Ao5_0, co5_0, eo_⟩ := Kd.R_slice HO120.out
             subst eo_
             have hcv5_ := own_string (P := Tryd.prog) Tryd.underlying46 Tryd.underlying5 Tryd.underlying9 (Kd.own_of_R HO120.out)
             refine value_ (w1 := w') (v := .string (strOfNums y118)) qa rfl ?_ ?_
             ·exact z8_0
             refine hK.out _ _ ⟨.slice Ao5_0 y118.length co5_0, (by rw [ha.out]; exact putSel_upk 4 hb_ rfl rfl rfl), Q_BK115, Q_HB, Q_HO120⟩
            refine steps_cons ?_ ?_
            ·rintro b a w' ⟨v119, ha, Q_BK115, Q_HB, Q_HO120⟩ hb_ hon hoff
             refine ⟨_, rfl, fun K hK => ?_⟩
             have e22 : a.tmps[22]? = some (.string ((⟨#[66, 66, 3, 0, 0]⟩ : ByteArray) ++ x5_8)) := by rw [ha]; exact putSel_on (e := (1, 22, .string ((⟨#[66, 66, 3, 0, 0]⟩ : ByteArray) ++ x5_8))) 0 rfl rfl (hon 1 qf) rfl
             have e26 : a.tmps[26]? = some (.string (strOfNums y118)) := by rw [ha]; exact putSel_on (e := (5, 26, .string (strOfNums y118))) 4 rfl rfl (hon 5 qf) rfl
             replace ha := Aside0.mk ha
             have BK115 := Aside0.mk Q_BK115
             have HB := Aside0.mk Q_HB
             have HO120 := Aside0.mk (Q_HO120 (hon 4 qf))
             refine value_ (w1 := w') (v := .string (((⟨#[66, 66, 3, 0, 0]⟩ : ByteArray) ++ x5_8) ++ (strOfNums y118))) qa rfl ?_ ?_
             ·exact z8_0
             refine hK.out _ _ ⟨v119, (by rw [ha.out]; exact putSel_upk 5 hb_ rfl rfl rfl), Q_BK115, Q_HB, Q_HO120⟩
            refine steps_cons ?_ ?_
            ·rintro b a w' ⟨v119, ha, Q_BK115, Q_HB, Q_HO120⟩ hb_ hon hoff
             refine ⟨_, rfl, fun K hK => ?_⟩
             have e28 : a.tmps[28]? = some (.pointer (some ⟨gb115, 8, none⟩)) := by rw [ha]; exact (putSel_off rfl).trans rfl
             replace ha := Aside0.mk ha
             have BK115 := Aside0.mk Q_BK115
             have HB := Aside0.mk Q_HB
             have hc0_ : w'.cell? ⟨gb115, 0, none⟩ = some (.int .i64 a0_0) := (blk_cell BK115.out 0).trans rfl
             have hc1_ : w'.cell? ⟨gb115, 1, none⟩ = some (.bool a0_1) := (blk_cell BK115.out 1).trans rfl
             have hc2_ : w'.cell? ⟨gb115, 2, none⟩ = some (.bool a0_2) := (blk_cell BK115.out 2).trans rfl
             have hc3_ : w'.cell? ⟨gb115, 3, none⟩ = some (.bool a0_3) := (blk_cell BK115.out 3).trans rfl
             have hc4_ : w'.cell? ⟨gb115, 4, none⟩ = some (.bool a0_4) := (blk_cell BK115.out 4).trans rfl
             have hc5_ : w'.cell? ⟨gb115, 5, none⟩ = some (.bool a0_5) := (blk_cell BK115.out 5).trans rfl
             have hc6_ : w'.cell? ⟨gb115, 6, none⟩ = some (.bool a0_6) := (blk_cell BK115.out 6).trans rfl
             have hc7_ : w'.cell? ⟨gb115, 7, none⟩ = some (.int .i64 a0_7) := (blk_cell BK115.out 7).trans rfl
             have hc8_ : w'.cell? ⟨gb115, 8, none⟩ = some (.int .u64 a0_8) := (blk_cell BK115.out 8).trans rfl
             have hc9_ : w'.cell? ⟨gb115, 9, none⟩ = some (.int .i64 a0_9) := (blk_cell BK115.out 9).trans rfl
             have hc10_ : w'.cell? ⟨gb115, 10, none⟩ = some (.int .u64 a0_10) := (blk_cell BK115.out 10).trans rfl
             have hc11_ : w'.cell? ⟨gb115, 11, none⟩ = some (.int .i64 a0_11) := (blk_cell BK115.out 11).trans rfl
             have hc12_ : w'.cell? ⟨gb115, 12, none⟩ = some (.int .i64 a0_12) := (blk_cell BK115.out 12).trans rfl
             have hc13_ : w'.cell? ⟨gb115, 13, none⟩ = some (.int .i64 a0_13) := (blk_cell BK115.out 13).trans rfl
             have hc14_ : w'.cell? ⟨gb115, 14, none⟩ = some (.int .i64 a0_14) := (blk_cell BK115.out 14).trans rfl
             have hc15_ : w'.cell? ⟨gb115, 15, none⟩ = some (.int .i64 a0_15) := (blk_cell BK115.out 15).trans rfl
             refine value_ (w1 := w') (v := .int .u64 a0_8) qa rfl ?_ ?_
             ·exact z8_0
             refine hK.out _ _ ⟨v119, (by rw [ha.out]; exact putSel_upk 6 hb_ rfl rfl rfl), Q_BK115, Q_HB, Q_HO120⟩
            refine steps_cons ?_ ?_
            ·rintro b a w' ⟨v119, ha, Q_BK115, Q_HB, Q_HO120⟩ hb_ hon hoff
             refine ⟨_, rfl, fun K hK => ?_⟩
             have e29 : a.tmps[29]? = some (.int .u64 a0_8) := by rw [ha]; exact putSel_on (e := (8, 29, .int .u64 a0_8)) 6 rfl rfl (hon 8 qf) rfl
             replace ha := Aside0.mk ha
             have BK115 := Aside0.mk Q_BK115
             have HB := Aside0.mk Q_HB
             refine goes_ Tryd.func20 qf rfl #[.int .u64 a0_8, .int .i64 8] qcx rfl rfl (by first | (simp only [List.map_toArray, List.map_cons, List.map_nil, Act.eval, Array.getD_eq_getD_getElem?, Option.getD_some, e29]; done) | (simp only [List.map_toArray, List.map_cons, List.map_nil, Act.eval, Array.getD_eq_getD_getElem?, Option.getD_some, e29]; rfl)) ?_
             with_reducible refine (bpdu_put.calls kj8 a0_8 8 t121 _ A18.out).mono ?_
             rintro e w29 ⟨rfl, hb⟩
             refine ⟨_, rfl, ?_⟩
             have n0_ := Aside0.mk (blk_below (g := gb115) (o := .cells #[.int .i64 a0_0, .bool a0_1, .bool a0_2, .bool a0_3, .bool a0_4, .bool a0_5, .bool a0_6, .int .i64 a0_7, .int .u64 a0_8, .int .i64 a0_9, .int .u64 a0_10, .int .i64 a0_11, .int .i64 a0_12, .int .i64 a0_13, .int .i64 a0_14, .int .i64 a0_15] 24 (0, 0)) qv hb)
             have n1_ := Aside0.mk (below_step qbl hb)
             have z_HO120 := fun (h0_ : b 4 = true) => (show Kd.R (Kd.int .u8) 5 w29 w.heap.size (fun _ => True) v119 y118 from by first | exact (Kd.R_below qp hb) | exact Kd.R_mono (Kd.R_below qp hb) (fun _ h_ => by first | trivial | exact h_ | exact h_.1))
             clear BK115
             clear HB
             have BK115 := n0_
             have HB := n1_
             clear n0_ n1_
             (try clear hb)
             (try clear hb2)
             (try clear hk)
             (try clear hi)
             refine hK.out _ _ ⟨v119, (by rw [ha.out]; exact putSel_upk 7 hb_ rfl rfl rfl), qv, qbl, z_HO120⟩
            refine steps_cons ?_ ?_
            ·rintro b a w' ⟨v119, ha, Q_BK115, Q_HB, Q_HO120⟩ hb_ hon hoff
             refine ⟨_, rfl, fun K hK => ?_⟩
             have e27 : a.tmps[27]? = some (.string (((⟨#[66, 66, 3, 0, 0]⟩ : ByteArray) ++ x5_8) ++ (strOfNums y118))) := by rw [ha]; exact putSel_on (e := (6, 27, .string (((⟨#[66, 66, 3, 0, 0]⟩ : ByteArray) ++ x5_8) ++ (strOfNums y118)))) 5 rfl rfl (hon 6 qf) rfl
             have e30 : a.tmps[30]? = some (.string t121) := by rw [ha]; exact putSel_on (e := (9, 30, .string t121)) 7 rfl rfl (hon 9 qf) rfl
             replace ha := Aside0.mk ha
             have BK115 := Aside0.mk Q_BK115
             have HB := Aside0.mk Q_HB
             have HO120 := Aside0.mk (Q_HO120 (hon 4 qf))
             refine value_ (w1 := w') (v := .string ((((⟨#[66, 66, 3, 0, 0]⟩ : ByteArray) ++ x5_8) ++ (strOfNums y118)) ++ t121)) qa rfl ?_ ?_
             ·exact z8_0
             refine hK.out _ _ ⟨v119, (by rw [ha.out]; exact putSel_upk 8 hb_ rfl rfl rfl), Q_BK115, Q_HB, Q_HO120⟩
            refine steps_cons ?_ ?_
            ·rintro b a w' ⟨v119, ha, Q_BK115, Q_HB, Q_HO120⟩ hb_ hon hoff
             refine ⟨_, rfl, fun K hK => ?_⟩
             have e32 : a.tmps[32]? = some (.pointer (some ⟨gb115, 9, none⟩)) := by rw [ha]; exact (putSel_off rfl).trans rfl
             replace ha := Aside0.mk ha
             have BK115 := Aside0.mk Q_BK115
             have HB := Aside0.mk Q_HB
             have hc0_ : w'.cell? ⟨gb115, 0, none⟩ = some (.int .i64 a0_0) := (blk_cell BK115.out 0).trans rfl
             have hc1_ : w'.cell? ⟨gb115, 1, none⟩ = some (.bool a0_1) := (blk_cell BK115.out 1).trans rfl
             have hc2_ : w'.cell? ⟨gb115, 2, none⟩ = some (.bool a0_2) := (blk_cell BK115.out 2).trans rfl
             have hc3_ : w'.cell? ⟨gb115, 3, none⟩ = some (.bool a0_3) := (blk_cell BK115.out 3).trans rfl
             have hc4_ : w'.cell? ⟨gb115, 4, none⟩ = some (.bool a0_4) := (blk_cell BK115.out 4).trans rfl
             have hc5_ : w'.cell? ⟨gb115, 5, none⟩ = some (.bool a0_5) := (blk_cell BK115.out 5).trans rfl
             have hc6_ : w'.cell? ⟨gb115, 6, none⟩ = some (.bool a0_6) := (blk_cell BK115.out 6).trans rfl
             have hc7_ : w'.cell? ⟨gb115, 7, none⟩ = some (.int .i64 a0_7) := (blk_cell BK115.out 7).trans rfl
             have hc8_ : w'.cell? ⟨gb115, 8, none⟩ = some (.int .u64 a0_8) := (blk_cell BK115.out 8).trans rfl
             have hc9_ : w'.cell? ⟨gb115, 9, none⟩ = some (.int .i64 a0_9) := (blk_cell BK115.out 9).trans rfl
             have hc10_ : w'.cell? ⟨gb115, 10, none⟩ = some (.int .u64 a0_10) := (blk_cell BK115.out 10).trans rfl
             have hc11_ : w'.cell? ⟨gb115, 11, none⟩ = some (.int .i64 a0_11) := (blk_cell BK115.out 11).trans rfl
             have hc12_ : w'.cell? ⟨gb115, 12, none⟩ = some (.int .i64 a0_12) := (blk_cell BK115.out 12).trans rfl
             have hc13_ : w'.cell? ⟨gb115, 13, none⟩ = some (.int .i64 a0_13) := (blk_cell BK115.out 13).trans rfl
             have hc14_ : w'.cell? ⟨gb115, 14, none⟩ = some (.int .i64 a0_14) := (blk_cell BK115.out 14).trans rfl
             have hc15_ : w'.cell? ⟨gb115, 15, none⟩ = some (.int .i64 a0_15) := (blk_cell BK115.out 15).trans rfl
             refine value_ (w1 := w') (v := .int .i64 a0_9) qa rfl ?_ ?_
             ·exact z8_0
             refine hK.out _ _ ⟨v119, (by rw [ha.out]; exact putSel_upk 9 hb_ rfl rfl rfl), Q_BK115, Q_HB, Q_HO120⟩
            refine steps_cons ?_ ?_
            ·rintro b a w' ⟨v119, ha, Q_BK115, Q_HB, Q_HO120⟩ hb_ hon hoff
             refine ⟨_, rfl, fun K hK => ?_⟩
             have e33 : a.tmps[33]? = some (.int .i64 a0_9) := by rw [ha]; exact putSel_on (e := (12, 33, .int .i64 a0_9)) 9 rfl rfl (hon 12 qf) rfl
             replace ha := Aside0.mk ha
             have BK115 := Aside0.mk Q_BK115
             have HB := Aside0.mk Q_HB
             refine value_ (w1 := w') (v := .int .u64 (IntKind.u64.wrap (a0_9))) qa rfl ?_ ?_
             ·exact z8_0
             refine hK.out _ _ ⟨v119, (by rw [ha.out]; exact putSel_upk 10 hb_ rfl rfl rfl), Q_BK115, Q_HB, Q_HO120⟩
            refine steps_cons ?_ ?_
            ·rintro b a w' ⟨v119, ha, Q_BK115, Q_HB, Q_HO120⟩ hb_ hon hoff
             refine ⟨_, rfl, fun K hK => ?_⟩
             have e34 : a.tmps[34]? = some (.int .u64 (IntKind.u64.wrap (a0_9))) := by rw [ha]; exact putSel_on (e := (13, 34, .int .u64 (IntKind.u64.wrap (a0_9)))) 10 rfl rfl (hon 13 qf) rfl
             replace ha := Aside0.mk ha
             have BK115 := Aside0.mk Q_BK115
             have HB := Aside0.mk Q_HB
             refine goes_ Tryd.func20 qf rfl #[.int .u64 (IntKind.u64.wrap (a0_9)), .int .i64 4] qcx rfl rfl (by first | (simp only [List.map_toArray, List.map_cons, List.map_nil, Act.eval, Array.getD_eq_getD_getElem?, Option.getD_some, e34]; done) | (simp only [List.map_toArray, List.map_cons, List.map_nil, Act.eval, Array.getD_eq_getD_getElem?, Option.getD_some, e34]; rfl)) ?_
             with_reducible refine (bpdu_put.calls kj8 (IntKind.u64.wrap (a0_9)) 4 t122 _ A20.out).mono ?_
             rintro e w30 ⟨rfl, hb⟩
             refine ⟨_, rfl, ?_⟩
             have n0_ := Aside0.mk (blk_below (g := gb115) (o := .cells #[.int .i64 a0_0, .bool a0_1, .bool a0_2, .bool a0_3, .bool a0_4, .bool a0_5, .bool a0_6, .int .i64 a0_7, .int .u64 a0_8, .int .i64 a0_9, .int .u64 a0_10, .int .i64 a0_11, .int .i64 a0_12, .int .i64 a0_13, .int .i64 a0_14, .int .i64 a0_15] 24 (0, 0)) qv hb)
             have n1_ := Aside0.mk (below_step qbl hb)
             have z_HO120 := fun (h0_ : b 4 = true) => (show Kd.R (Kd.int .u8) 5 w30 w.heap.size (fun _ => True) v119 y118 from by first | exact (Kd.R_below qp hb) | exact Kd.R_mono (Kd.R_below qp hb) (fun _ h_ => by first | trivial | exact h_ | exact h_.1))
             clear BK115
             clear HB
             have BK115 := n0_
             have HB := n1_
             clear n0_ n1_
             (try clear hb)
             (try clear hb2)
             (try clear hk)
             (try clear hi)
             refine hK.out _ _ ⟨v119, (by rw [ha.out]; exact putSel_upk 11 hb_ rfl rfl rfl), qv, qbl, z_HO120⟩
            refine steps_cons ?_ ?_
            ·rintro b a w' ⟨v119, ha, Q_BK115, Q_HB, Q_HO120⟩ hb_ hon hoff
             refine ⟨_, rfl, fun K hK => ?_⟩
             have e31 : a.tmps[31]? = some (.string ((((⟨#[66, 66, 3, 0, 0]⟩ : ByteArray) ++ x5_8) ++ (strOfNums y118)) ++ t121)) := by rw [ha]; exact putSel_on (e := (10, 31, .string ((((⟨#[66, 66, 3, 0, 0]⟩ : ByteArray) ++ x5_8) ++ (strOfNums y118)) ++ t121))) 8 rfl rfl (hon 10 qf) rfl
             have e35 : a.tmps[35]? = some (.string t122) := by rw [ha]; exact putSel_on (e := (14, 35, .string t122)) 11 rfl rfl (hon 14 qf) rfl
             replace ha := Aside0.mk ha
             have BK115 := Aside0.mk Q_BK115
             have HB := Aside0.mk Q_HB
             have HO120 := Aside0.mk (Q_HO120 (hon 4 qf))
             refine value_ (w1 := w') (v := .string (((((⟨#[66, 66, 3, 0, 0]⟩ : ByteArray) ++ x5_8) ++ (strOfNums y118)) ++ t121) ++ t122)) qa rfl ?_ ?_
             ·exact z8_0
             refine hK.out _ _ ⟨v119, (by rw [ha.out]; exact putSel_upk 12 hb_ rfl rfl rfl), Q_BK115, Q_HB, Q_HO120⟩
            refine steps_cons ?_ ?_
            ·rintro b a w' ⟨v119, ha, Q_BK115, Q_HB, Q_HO120⟩ hb_ hon hoff
             refine ⟨_, rfl, fun K hK => ?_⟩
             have e37 : a.tmps[37]? = some (.pointer (some ⟨gb115, 10, none⟩)) := by rw [ha]; exact (putSel_off rfl).trans rfl
             replace ha := Aside0.mk ha
             have BK115 := Aside0.mk Q_BK115
             have HB := Aside0.mk Q_HB
             have hc0_ : w'.cell? ⟨gb115, 0, none⟩ = some (.int .i64 a0_0) := (blk_cell BK115.out 0).trans rfl
             have hc1_ : w'.cell? ⟨gb115, 1, none⟩ = some (.bool a0_1) := (blk_cell BK115.out 1).trans rfl
             have hc2_ : w'.cell? ⟨gb115, 2, none⟩ = some (.bool a0_2) := (blk_cell BK115.out 2).trans rfl
             have hc3_ : w'.cell? ⟨gb115, 3, none⟩ = some (.bool a0_3) := (blk_cell BK115.out 3).trans rfl
             have hc4_ : w'.cell? ⟨gb115, 4, none⟩ = some (.bool a0_4) := (blk_cell BK115.out 4).trans rfl
             have hc5_ : w'.cell? ⟨gb115, 5, none⟩ = some (.bool a0_5) := (blk_cell BK115.out 5).trans rfl
             have hc6_ : w'.cell? ⟨gb115, 6, none⟩ = some (.bool a0_6) := (blk_cell BK115.out 6).trans rfl
             have hc7_ : w'.cell? ⟨gb115, 7, none⟩ = some (.int .i64 a0_7) := (blk_cell BK115.out 7).trans rfl
             have hc8_ : w'.cell? ⟨gb115, 8, none⟩ = some (.int .u64 a0_8) := (blk_cell BK115.out 8).trans rfl
             have hc9_ : w'.cell? ⟨gb115, 9, none⟩ = some (.int .i64 a0_9) := (blk_cell BK115.out 9).trans rfl
             have hc10_ : w'.cell? ⟨gb115, 10, none⟩ = some (.int .u64 a0_10) := (blk_cell BK115.out 10).trans rfl
             have hc11_ : w'.cell? ⟨gb115, 11, none⟩ = some (.int .i64 a0_11) := (blk_cell BK115.out 11).trans rfl
             have hc12_ : w'.cell? ⟨gb115, 12, none⟩ = some (.int .i64 a0_12) := (blk_cell BK115.out 12).trans rfl
             have hc13_ : w'.cell? ⟨gb115, 13, none⟩ = some (.int .i64 a0_13) := (blk_cell BK115.out 13).trans rfl
             have hc14_ : w'.cell? ⟨gb115, 14, none⟩ = some (.int .i64 a0_14) := (blk_cell BK115.out 14).trans rfl
             have hc15_ : w'.cell? ⟨gb115, 15, none⟩ = some (.int .i64 a0_15) := (blk_cell BK115.out 15).trans rfl
             refine value_ (w1 := w') (v := .int .u64 a0_10) qa rfl ?_ ?_
             ·exact z8_0
             refine hK.out _ _ ⟨v119, (by rw [ha.out]; exact putSel_upk 13 hb_ rfl rfl rfl), Q_BK115, Q_HB, Q_HO120⟩
            refine steps_cons ?_ ?_
            ·rintro b a w' ⟨v119, ha, Q_BK115, Q_HB, Q_HO120⟩ hb_ hon hoff
             refine ⟨_, rfl, fun K hK => ?_⟩
             have e38 : a.tmps[38]? = some (.int .u64 a0_10) := by rw [ha]; exact putSel_on (e := (17, 38, .int .u64 a0_10)) 13 rfl rfl (hon 17 qf) rfl
             replace ha := Aside0.mk ha
             have BK115 := Aside0.mk Q_BK115
             have HB := Aside0.mk Q_HB
             refine goes_ Tryd.func20 qf rfl #[.int .u64 a0_10, .int .i64 8] qcx rfl rfl (by first | (simp only [List.map_toArray, List.map_cons, List.map_nil, Act.eval, Array.getD_eq_getD_getElem?, Option.getD_some, e38]; done) | (simp only [List.map_toArray, List.map_cons, List.map_nil, Act.eval, Array.getD_eq_getD_getElem?, Option.getD_some, e38]; rfl)) ?_
             with_reducible refine (bpdu_put.calls kj8 a0_10 8 t123 _ A22.out).mono ?_
             rintro e w31 ⟨rfl, hb⟩
             refine ⟨_, rfl, ?_⟩
             have n0_ := Aside0.mk (blk_below (g := gb115) (o := .cells #[.int .i64 a0_0, .bool a0_1, .bool a0_2, .bool a0_3, .bool a0_4, .bool a0_5, .bool a0_6, .int .i64 a0_7, .int .u64 a0_8, .int .i64 a0_9, .int .u64 a0_10, .int .i64 a0_11, .int .i64 a0_12, .int .i64 a0_13, .int .i64 a0_14, .int .i64 a0_15] 24 (0, 0)) qv hb)
             have n1_ := Aside0.mk (below_step qbl hb)
             have z_HO120 := fun (h0_ : b 4 = true) => (show Kd.R (Kd.int .u8) 5 w31 w.heap.size (fun _ => True) v119 y118 from by first | exact (Kd.R_below qp hb) | exact Kd.R_mono (Kd.R_below qp hb) (fun _ h_ => by first | trivial | exact h_ | exact h_.1))
             clear BK115
             clear HB
             have BK115 := n0_
             have HB := n1_
             clear n0_ n1_
             (try clear hb)
             (try clear hb2)
             (try clear hk)
             (try clear hi)
             refine hK.out _ _ ⟨v119, (by rw [ha.out]; exact putSel_upk 14 hb_ rfl rfl rfl), qv, qbl, z_HO120⟩
            refine steps_cons ?_ ?_
            ·rintro b a w' ⟨v119, ha, Q_BK115, Q_HB, Q_HO120⟩ hb_ hon hoff
             refine ⟨_, rfl, fun K hK => ?_⟩
             have e36 : a.tmps[36]? = some (.string (((((⟨#[66, 66, 3, 0, 0]⟩ : ByteArray) ++ x5_8) ++ (strOfNums y118)) ++ t121) ++ t122)) := by rw [ha]; exact putSel_on (e := (15, 36, .string (((((⟨#[66, 66, 3, 0, 0]⟩ : ByteArray) ++ x5_8) ++ (strOfNums y118)) ++ t121) ++ t122))) 12 rfl rfl (hon 15 qf) rfl
             have e39 : a.tmps[39]? = some (.string t123) := by rw [ha]; exact putSel_on (e := (18, 39, .string t123)) 14 rfl rfl (hon 18 qf) rfl
             replace ha := Aside0.mk ha
             have BK115 := Aside0.mk Q_BK115
             have HB := Aside0.mk Q_HB
             have HO120 := Aside0.mk (Q_HO120 (hon 4 qf))
             refine value_ (w1 := w') (v := .string ((((((⟨#[66, 66, 3, 0, 0]⟩ : ByteArray) ++ x5_8) ++ (strOfNums y118)) ++ t121) ++ t122) ++ t123)) qa rfl ?_ ?_
             ·exact z8_0
             refine hK.out _ _ ⟨v119, (by rw [ha.out]; exact putSel_upk 15 hb_ rfl rfl rfl), Q_BK115, Q_HB, Q_HO120⟩
            refine steps_cons ?_ ?_
            ·rintro b a w' ⟨v119, ha, Q_BK115, Q_HB, Q_HO120⟩ hb_ hon hoff
             refine ⟨_, rfl, fun K hK => ?_⟩
             have e41 : a.tmps[41]? = some (.pointer (some ⟨gb115, 11, none⟩)) := by rw [ha]; exact (putSel_off rfl).trans rfl
             replace ha := Aside0.mk ha
             have BK115 := Aside0.mk Q_BK115
             have HB := Aside0.mk Q_HB
             have hc0_ : w'.cell? ⟨gb115, 0, none⟩ = some (.int .i64 a0_0) := (blk_cell BK115.out 0).trans rfl
             have hc1_ : w'.cell? ⟨gb115, 1, none⟩ = some (.bool a0_1) := (blk_cell BK115.out 1).trans rfl
             have hc2_ : w'.cell? ⟨gb115, 2, none⟩ = some (.bool a0_2) := (blk_cell BK115.out 2).trans rfl
             have hc3_ : w'.cell? ⟨gb115, 3, none⟩ = some (.bool a0_3) := (blk_cell BK115.out 3).trans rfl
             have hc4_ : w'.cell? ⟨gb115, 4, none⟩ = some (.bool a0_4) := (blk_cell BK115.out 4).trans rfl
             have hc5_ : w'.cell? ⟨gb115, 5, none⟩ = some (.bool a0_5) := (blk_cell BK115.out 5).trans rfl
             have hc6_ : w'.cell? ⟨gb115, 6, none⟩ = some (.bool a0_6) := (blk_cell BK115.out 6).trans rfl
             have hc7_ : w'.cell? ⟨gb115, 7, none⟩ = some (.int .i64 a0_7) := (blk_cell BK115.out 7).trans rfl
             have hc8_ : w'.cell? ⟨gb115, 8, none⟩ = some (.int .u64 a0_8) := (blk_cell BK115.out 8).trans rfl
             have hc9_ : w'.cell? ⟨gb115, 9, none⟩ = some (.int .i64 a0_9) := (blk_cell BK115.out 9).trans rfl
             have hc10_ : w'.cell? ⟨gb115, 10, none⟩ = some (.int .u64 a0_10) := (blk_cell BK115.out 10).trans rfl
             have hc11_ : w'.cell? ⟨gb115, 11, none⟩ = some (.int .i64 a0_11) := (blk_cell BK115.out 11).trans rfl
             have hc12_ : w'.cell? ⟨gb115, 12, none⟩ = some (.int .i64 a0_12) := (blk_cell BK115.out 12).trans rfl
             have hc13_ : w'.cell? ⟨gb115, 13, none⟩ = some (.int .i64 a0_13) := (blk_cell BK115.out 13).trans rfl
             have hc14_ : w'.cell? ⟨gb115, 14, none⟩ = some (.int .i64 a0_14) := (blk_cell BK115.out 14).trans rfl
             have hc15_ : w'.cell? ⟨gb115, 15, none⟩ = some (.int .i64 a0_15) := (blk_cell BK115.out 15).trans rfl
             refine value_ (w1 := w') (v := .int .i64 a0_11) qa rfl ?_ ?_
             ·exact z8_0
             refine hK.out _ _ ⟨v119, (by rw [ha.out]; exact putSel_upk 16 hb_ rfl rfl rfl), Q_BK115, Q_HB, Q_HO120⟩
            refine steps_cons ?_ ?_
            ·rintro b a w' ⟨v119, ha, Q_BK115, Q_HB, Q_HO120⟩ hb_ hon hoff
             refine ⟨_, rfl, fun K hK => ?_⟩
             have e42 : a.tmps[42]? = some (.int .i64 a0_11) := by rw [ha]; exact putSel_on (e := (21, 42, .int .i64 a0_11)) 16 rfl rfl (hon 21 qf) rfl
             replace ha := Aside0.mk ha
             have BK115 := Aside0.mk Q_BK115
             have HB := Aside0.mk Q_HB
             refine value_ (w1 := w') (v := .int .u64 (IntKind.u64.wrap (a0_11))) qa rfl ?_ ?_
             ·exact z8_0
             refine hK.out _ _ ⟨v119, (by rw [ha.out]; exact putSel_upk 17 hb_ rfl rfl rfl), Q_BK115, Q_HB, Q_HO120⟩
            refine steps_cons ?_ ?_
            ·rintro b a w' ⟨v119, ha, Q_BK115, Q_HB, Q_HO120⟩ hb_ hon hoff
             refine ⟨_, rfl, fun K hK => ?_⟩
             have e43 : a.tmps[43]? = some (.int .u64 (IntKind.u64.wrap (a0_11))) := by rw [ha]; exact putSel_on (e := (22, 43, .int .u64 (IntKind.u64.wrap (a0_11)))) 17 rfl rfl (hon 22 qf) rfl
             replace ha := Aside0.mk ha
             have BK115 := Aside0.mk Q_BK115
             have HB := Aside0.mk Q_HB
             refine goes_ Tryd.func20 qf rfl #[.int .u64 (IntKind.u64.wrap (a0_11)), .int .i64 2] qcx rfl rfl (by first | (simp only [List.map_toArray, List.map_cons, List.map_nil, Act.eval, Array.getD_eq_getD_getElem?, Option.getD_some, e43]; done) | (simp only [List.map_toArray, List.map_cons, List.map_nil, Act.eval, Array.getD_eq_getD_getElem?, Option.getD_some, e43]; rfl)) ?_
             with_reducible refine (bpdu_put.calls kj8 (IntKind.u64.wrap (a0_11)) 2 t124 _ A24.out).mono ?_
             rintro e w32 ⟨rfl, hb⟩
             refine ⟨_, rfl, ?_⟩
             have n0_ := Aside0.mk (blk_below (g := gb115) (o := .cells #[.int .i64 a0_0, .bool a0_1, .bool a0_2, .bool a0_3, .bool a0_4, .bool a0_5, .bool a0_6, .int .i64 a0_7, .int .u64 a0_8, .int .i64 a0_9, .int .u64 a0_10, .int .i64 a0_11, .int .i64 a0_12, .int .i64 a0_13, .int .i64 a0_14, .int .i64 a0_15] 24 (0, 0)) qv hb)
             have n1_ := Aside0.mk (below_step qbl hb)
             have z_HO120 := fun (h0_ : b 4 = true) => (show Kd.R (Kd.int .u8) 5 w32 w.heap.size (fun _ => True) v119 y118 from by first | exact (Kd.R_below qp hb) | exact Kd.R_mono (Kd.R_below qp hb) (fun _ h_ => by first | trivial | exact h_ | exact h_.1))
             clear BK115
             clear HB
             have BK115 := n0_
             have HB := n1_
             clear n0_ n1_
             (try clear hb)
             (try clear hb2)
             (try clear hk)
             (try clear hi)
             refine hK.out _ _ ⟨v119, (by rw [ha.out]; exact putSel_upk 18 hb_ rfl rfl rfl), qv, qbl, z_HO120⟩
            refine steps_cons ?_ ?_
            ·rintro b a w' ⟨v119, ha, Q_BK115, Q_HB, Q_HO120⟩ hb_ hon hoff
             refine ⟨_, rfl, fun K hK => ?_⟩
             have e40 : a.tmps[40]? = some (.string ((((((⟨#[66, 66, 3, 0, 0]⟩ : ByteArray) ++ x5_8) ++ (strOfNums y118)) ++ t121) ++ t122) ++ t123)) := by rw [ha]; exact putSel_on (e := (19, 40, .string ((((((⟨#[66, 66, 3, 0, 0]⟩ : ByteArray) ++ x5_8) ++ (strOfNums y118)) ++ t121) ++ t122) ++ t123))) 15 rfl rfl (hon 19 qf) rfl
             have e44 : a.tmps[44]? = some (.string t124) := by rw [ha]; exact putSel_on (e := (23, 44, .string t124)) 18 rfl rfl (hon 23 qf) rfl
             replace ha := Aside0.mk ha
             have BK115 := Aside0.mk Q_BK115
             have HB := Aside0.mk Q_HB
             have HO120 := Aside0.mk (Q_HO120 (hon 4 qf))
             refine value_ (w1 := w') (v := .string (((((((⟨#[66, 66, 3, 0, 0]⟩ : ByteArray) ++ x5_8) ++ (strOfNums y118)) ++ t121) ++ t122) ++ t123) ++ t124)) qa rfl ?_ ?_
             ·exact z8_0
             refine hK.out _ _ ⟨v119, (by rw [ha.out]; exact putSel_upk 19 hb_ rfl rfl rfl), Q_BK115, Q_HB, Q_HO120⟩
            refine steps_cons ?_ ?_
            ·rintro b a w' ⟨v119, ha, Q_BK115, Q_HB, Q_HO120⟩ hb_ hon hoff
             refine ⟨_, rfl, fun K hK => ?_⟩
             have e45 : a.tmps[45]? = some (.string (((((((⟨#[66, 66, 3, 0, 0]⟩ : ByteArray) ++ x5_8) ++ (strOfNums y118)) ++ t121) ++ t122) ++ t123) ++ t124)) := by rw [ha]; exact putSel_on (e := (24, 45, .string (((((((⟨#[66, 66, 3, 0, 0]⟩ : ByteArray) ++ x5_8) ++ (strOfNums y118)) ++ t121) ++ t122) ++ t123) ++ t124))) 19 rfl rfl (hon 24 qf) rfl
             replace ha := Aside0.mk ha
             have BK115 := Aside0.mk Q_BK115
             have HB := Aside0.mk Q_HB
             have HO120 := Aside0.mk (Q_HO120 (hon 4 qf))
             refine value_ (w1 := w') (v := .string (((((((⟨#[66, 66, 3, 0, 0]⟩ : ByteArray) ++ x5_8) ++ (strOfNums y118)) ++ t121) ++ t122) ++ t123) ++ t124)) qa rfl ?_ ?_
             ·exact z8_0
             refine hK.out _ _ ⟨v119, (by rw [ha.out]; exact putSel_upk 20 hb_ rfl rfl rfl), Q_BK115, Q_HB, Q_HO120⟩
            exact steps_nil
           rintro b a w34 hall ⟨v119, ha, Q_BK115, Q_HB, Q_HO120⟩
           clear BK115 HB
           have hb1_ := hall 1 qf
           have hb2_ := hall 2 qf
           have hb3_ := hall 3 qf
           have hb4_ := hall 4 qf
           have hb5_ := hall 5 qf
           have hb6_ := hall 6 qf
           have hb8_ := hall 8 qf
           have hb9_ := hall 9 qf
           have hb10_ := hall 10 qf
           have hb12_ := hall 12 qf
           have hb13_ := hall 13 qf
           have hb14_ := hall 14 qf
           have hb15_ := hall 15 qf
           have hb17_ := hall 17 qf
           have hb18_ := hall 18 qf
           have hb19_ := hall 19 qf
           have hb21_ := hall 21 qf
           have hb22_ := hall 22 qf
           have hb23_ := hall 23 qf
           have hb24_ := hall 24 qf
           have hb25_ := hall 25 qf
           subst ha
           simp only [putSel, hb1_, hb2_, hb3_, hb4_, hb5_, hb6_, hb8_, hb9_, hb10_, hb12_, hb13_, hb14_, hb15_, hb17_, hb18_, hb19_, hb21_, hb22_, hb23_, hb24_, hb25_, if_true, Act.put, List.setIfInBounds_toArray, List.set_cons_zero, List.set_cons_succ]
           have BK115 := Aside0.mk Q_BK115
           clear Q_BK115
           have HB := Aside0.mk Q_HB
           clear Q_HB
           have HO120 := Aside0.mk (Q_HO120 hb4_)
           clear Q_HO120
           clear hall hb1_ hb2_ hb3_ hb4_ hb5_ hb6_ hb8_ hb9_ hb10_ hb12_ hb13_ hb14_ hb15_ hb17_ hb18_ hb19_ hb21_ hb22_ hb23_ hb24_ hb25_
           obtain ⟨hcz36_0, hcz36_1, hcz36_2, hcz36_3, hcz36_4, hcz36_5, hcz36_6, hcz36_7, hcz36_8, hcz36_9, hcz36_10, hcz36_11, hcz36_12, hcz36_13, hcz36_14, hcz36_15⟩ := cells16 BK115.out
           obtain ⟨hfz36_0, hfz36_1, hfz36_2, hfz36_3, hfz36_4, hfz36_5, hfz36_6, hfz36_7, hfz36_8, hfz36_9, hfz36_10, hfz36_11, hfz36_12, hfz36_13, hfz36_14, hfz36_15⟩ := frozen16 BK115.out
           try go_wp2_with (first | ((with_reducible refine gate_st (ty := 24) rfl ?_); refine storeC16 rfl rfl rfl rfl rfl qby qo qf rfl ?_) | ((with_reducible refine gate_ld (ty := 24) rfl ?_); (try (with_reducible refine gate_gd rfl ?_; refine gate_guard qc8 ?_; dsimp only)); refine load_st rfl rfl rfl qby qo Tryd.underlying24 rfl qf ?_; (try simp only [Act.put, List.setIfInBounds_toArray, List.set_cons_zero, List.set_cons_succ])) | ((with_reducible refine gate_dst (N := 54) rfl ?_); refine Kd.R_lit (Kd.int .i64) _ 3 ?hg (N := 54) ?hd (xs := ([a0_12, a0_13, a0_14, a0_15] : List Int)) (inner := [.int .i64 a0_12, .int .i64 a0_13, .int .i64 a0_14, .int .i64 a0_15]) (ok := fun _ => True) (okp := fun _ => True) ?hr ?hp (fun _ hk => hk) trivial (Below.refl _ _) (Nat.le_refl _) qb ?_; (case hd => rfl); (case hg => rfl); (case hr => first | (go_simp; done) | (go_simp; rfl)); (case hp => exact (Reps.one (show Kd.M (Kd.int .i64) _ _ _ a0_12 [.int .i64 a0_12] from rfl) (Reps.one (show Kd.M (Kd.int .i64) _ _ _ a0_13 [.int .i64 a0_13] from rfl) (Reps.one (show Kd.M (Kd.int .i64) _ _ _ a0_14 [.int .i64 a0_14] from rfl) (Reps.one (show Kd.M (Kd.int .i64) _ _ _ a0_15 [.int .i64 a0_15] from rfl) (Reps.none _ _)))))); intro v126 w37 ho38 hb hg_ hnew_; clear hg_ hnew_; (first | rw [← Ny125.out] at ho38 | (simp only [Int.reduceToNat] at ho38; rw [← Ny125.out] at ho38)); have n0_ := Aside0.mk (Kd.R_below (by (with_reducible repeat (first | apply Kd.R_alloc | apply Kd.R_drewN | apply Kd.R_drew)); exact HO120.out) hb); have n1_ := Aside0.mk (Kd.R_lower ho38 (below_size qbl)); have n2_ := Aside0.mk (blk_below (g := gb115) qv hb); have n3_ := Aside0.mk (below_step qbl hb); clear HO120; clear BK115; clear HB; have HO120 := n0_; have HO127 := n1_; have BK115 := n2_; have HB := n3_; clear n0_ n1_ n2_ n3_; obtain ⟨hcy1_115_0, hcy1_115_1, hcy1_115_2, hcy1_115_3, hcy1_115_4, hcy1_115_5, hcy1_115_6, hcy1_115_7, hcy1_115_8, hcy1_115_9, hcy1_115_10, hcy1_115_11, hcy1_115_12, hcy1_115_13, hcy1_115_14, hcy1_115_15⟩ := cells16 BK115.out; clear hb ho38; obtain ⟨Ao39, co39, eo39⟩ := Kd.R_slice HO127.out; subst eo39))
           go_loopg [7, 56] kj8 (fun kq v7 v56 w' => ∃ (x7_2 : ByteArray) (x56_2 : Int), v7 = .string x7_2 ∧ v56 = .int .i64 x56_2 ∧ Aside0 (bpdu_Build.l0 kq x6_8 x7_2 y125 (y125.length : Int) x56_2 = some (r1, r2)) ∧ Aside0 (kq ≤ kj8) ∧ Aside0 (Kd.R (Kd.int .i64) 3 w' w.heap.size (fun _ => True) (.slice Ao39 y125.length co39) y125) ∧ Aside0 (w'.heap[gb115]? = some (.cells #[.int .i64 a0_0, .bool a0_1, .bool a0_2, .bool a0_3, .bool a0_4, .bool a0_5, .bool a0_6, .int .i64 a0_7, .int .u64 a0_8, .int .i64 a0_9, .int .u64 a0_10, .int .i64 a0_11, .int .i64 a0_12, .int .i64 a0_13, .int .i64 a0_14, .int .i64 a0_15] 24 (0, 0))) ∧ Aside0 (Below w.heap.size w w'))
           case atStart => exact ⟨(((((((⟨#[66, 66, 3, 0, 0]⟩ : ByteArray) ++ x5_8) ++ (strOfNums y118)) ++ t121) ++ t122) ++ t123) ++ t124), (0), qk, qk, H', ⟨Nat.le_refl _⟩, ⟨by (with_reducible repeat (first | apply Kd.R_alloc | apply Kd.R_drewN | apply Kd.R_drew)); exact HO127.out⟩, ⟨by (with_reducible repeat (first | refine blk_drewN ?_ _ | refine blk_drew ?_ | refine blk_alloc ?_ _)); exact BK115.out⟩, ⟨by repeat (first | (with_reducible first | exact HB.out | apply below_alloc | apply pw_below_drewN | apply below_drew1 | refine below_set ?_ GE115.out) | exact HB.out)⟩⟩
           case round =>
            clear H'
            try clear c1
            try clear c2
            try clear p2
            try clear c3
            try clear c4
            try clear c5
            try clear hcv5
            try clear c6
            try clear c7
            try clear c8
            try clear c9
            try clear c10
            try clear c11
            try clear c12
            try clear c13
            try clear c14
            try clear c15
            try clear c17
            try clear c17b0
            try clear c17b1
            try clear c17b2
            try clear c19
            try clear c19b0
            try clear c19b1
            try clear c19b2
            try clear c20
            try clear c21
            try clear c21b0
            try clear c21b1
            try clear c21b2
            try clear c23
            try clear c23b0
            try clear c23b1
            try clear c23b2
            try clear c25
            try clear c25b0
            try clear c25b1
            try clear c25b2
            obtain ⟨x7_2, x56_2, rfl, rfl, HA, HK2, HO_54, BK115, HB⟩ := hrel
            cases gk with
            | zero => exact absurd HA.out (by simp [bpdu_Build.l0])
            | succ k2 =>
             have H := HA.out
             clear HA
             simp only [bpdu_Build.l0] at H
             by_cases c40 : x56_2 < (y125.length : Int)
             ·rw [if_pos c40] at H
              have c40b0 : decide (x56_2 < (y125.length : Int)) = true := decide_eq_true c40
              clear c40
              by_cases c41 : 0 ≤ x56_2
              ·rw [if_pos c41] at H
               have c41b0 : decide (0 ≤ x56_2) = true := decide_eq_true c41
               clear c41
               by_cases c42 : x56_2 < (y125.length : Int)
               ·rw [if_pos c42] at H
                have c42b0 : decide (x56_2 < (y125.length : Int)) = true := decide_eq_true c42
                clear c42
                replace H := Option.bind_eq_some_iff.mp H
                obtain ⟨t129, A430, H⟩ := H
                try dsimp only at H
                have A43 := Aside0.mk A430
                clear A430
                by_cases c44 : x7_2.size + t129.size ≤ 9223372036854775807
                ·rw [if_pos c44] at H
                 have c44b0 := eq_true c44
                 have c44b1 : decide (x7_2.size + t129.size ≤ 9223372036854775807) = true := decide_eq_true c44
                 try have c44b2 : (9223372036854775807 < x7_2.size + t129.size) = False := eq_false (Nat.not_lt.2 c44)
                 have H' := Aside0.mk H
                 clear H
                 have p128 : 0 ≤ (x56_2 : Int) := of_decide_eq_true ql
                 have q128 : x56_2 < (y125.length : Int) := of_decide_eq_true ql
                 obtain ⟨ad128, e128, hx128_0⟩ := Kd.at_int (Kd.R_reads' HO_54.out).2.2 x56_2 p128 q128
                 cases e128
                 replace p128 := eq_true p128
                 replace q128 := eq_true q128
                 go_wp2_with (first | ((with_reducible refine gate_st (ty := 24) rfl ?_); refine storeC16 rfl rfl rfl rfl rfl qby qo qf rfl ?_) | ((with_reducible refine gate_ld (ty := 24) rfl ?_); (try (with_reducible refine gate_gd rfl ?_; refine gate_guard qc8 ?_; dsimp only)); refine load_st rfl rfl rfl qby qo Tryd.underlying24 rfl qf ?_; (try simp only [Act.put, List.setIfInBounds_toArray, List.set_cons_zero, List.set_cons_succ])) | ((with_reducible refine gate_callee (f := 20) rfl ?_); refine goesL_ (some 63) rfl rfl Tryd.func20 qf rfl #[.int .u64 (IntKind.u64.wrap (rd y125 x56_2)), .int .i64 2] rfl qbi ?_; (with_reducible refine (bpdu_put.calls k2 (IntKind.u64.wrap (rd y125 x56_2)) 2 t129 _ A43.out).mono ?_); rintro e w45 ⟨rfl, hb⟩; refine ⟨_, rfl, ?_⟩; have n0_ := Aside0.mk (Kd.R_below (by (with_reducible repeat (first | apply Kd.R_alloc | apply Kd.R_drewN | apply Kd.R_drew)); exact HO_54.out) hb); have n1_ := Aside0.mk (blk_below (g := gb115) qv hb); have n2_ := Aside0.mk (below_step qbl hb); clear HO_54; clear BK115; clear HB; have HO_54 := n0_; have BK115 := n1_; have HB := n2_; clear n0_ n1_ n2_; obtain ⟨hcy1_115_0, hcy1_115_1, hcy1_115_2, hcy1_115_3, hcy1_115_4, hcy1_115_5, hcy1_115_6, hcy1_115_7, hcy1_115_8, hcy1_115_9, hcy1_115_10, hcy1_115_11, hcy1_115_12, hcy1_115_13, hcy1_115_14, hcy1_115_15⟩ := cells16 BK115.out; (try clear hb); (try clear hb2); (try clear hk); (try clear hi)))
                 go_roundg k2
                 case measure => have := HJ8.out; have := HK2.out; omega
                 case rel => exact ⟨(x7_2 ++ t129), (wrap64 (x56_2 + 1)), qk, qk, H', ⟨by have := HJ8.out; have := HK2.out; omega⟩, ⟨by (with_reducible repeat (first | apply Kd.R_alloc | apply Kd.R_drewN | apply Kd.R_drew)); exact HO_54.out⟩, ⟨by (with_reducible repeat (first | refine blk_drewN ?_ _ | refine blk_drew ?_ | refine blk_alloc ?_ _)); exact BK115.out⟩, ⟨by repeat (first | (with_reducible first | exact HB.out | apply below_alloc | apply pw_below_drewN | apply below_drew1 | refine below_set ?_ GE115.out) | exact HB.out)⟩⟩
                ·rw [if_neg c44] at H
                 exact absurd H qb
               ·rw [if_neg c42] at H
                exact absurd H qb
              ·rw [if_neg c41] at H
               exact absurd H qb
             ·rw [if_neg c40] at H
              have c40b0 : decide (x56_2 < (y125.length : Int)) = false := decide_eq_false c40
              clear c40
              by_cases c46 : x7_2.size + x6_8.size ≤ 9223372036854775807
              ·rw [if_pos c46] at H
               have c46b0 := eq_true c46
               have c46b1 : decide (x7_2.size + x6_8.size ≤ 9223372036854775807) = true := decide_eq_true c46
               try have c46b2 : (9223372036854775807 < x7_2.size + x6_8.size) = False := eq_false (Nat.not_lt.2 c46)
               simp only [Option.some.injEq, Prod.mk.injEq] at H
               obtain ⟨rfl, rfl⟩ := H
               go_wp2_with (first | ((with_reducible refine gate_st (ty := 24) rfl ?_); refine storeC16 rfl rfl rfl rfl rfl qby qo qf rfl ?_) | ((with_reducible refine gate_ld (ty := 24) rfl ?_); (try (with_reducible refine gate_gd rfl ?_; refine gate_guard qc8 ?_; dsimp only)); refine load_st rfl rfl rfl qby qo Tryd.underlying24 rfl qf ?_; (try simp only [Act.put, List.setIfInBounds_toArray, List.set_cons_zero, List.set_cons_succ])) | go_in)
               go_ret2
               exact ⟨by first | rfl | (simp [errW_none, errW_some] <;> rfl) | (simp [*, errW_none, errW_some] <;> rfl) | (simp [*, IntKind.wrap_u32]; done) | (simp_all [IntKind.wrap_u32]; done), by repeat (first | (with_reducible first | exact HB.out | apply below_alloc | apply pw_below_drewN | apply below_drew1 | refine below_set ?_ GE115.out) | exact HB.out)⟩
              ·rw [if_neg c46] at H
               exact absurd H qb
          ·rw [if_neg c25] at H
           exact absurd H qb
         ·rw [if_neg c23] at H
          exact absurd H qb
        ·rw [if_neg c21] at H
         exact absurd H qb
       ·rw [if_neg c19] at H
        exact absurd H qb
      ·rw [if_neg c17] at H
       exact absurd H qb
     ·rw [if_neg c15] at H
      exact absurd H qb
 ·rw [if_neg c3] at H
  have c3b0 : (t116 == 0) = false := beq_eq_false_iff_ne.mpr c3
  have c3b1 : (t116 != 0) = true := bne_iff_ne.mpr c3
  simp only [Option.some.injEq, Prod.mk.injEq] at H
  obtain ⟨rfl, rfl⟩ := H
  go_enter Tryd.func8, Tryd.ntmps8
  go_wp2_with (first | ((with_reducible refine gate_st (ty := 24) rfl ?_); refine storeC16 rfl rfl rfl rfl rfl qby qo qf rfl ?_) | ((with_reducible refine gate_ld (ty := 24) rfl ?_); (try (with_reducible refine gate_gd rfl ?_; refine gate_guard qc8 ?_; dsimp only)); refine load_st rfl rfl rfl qby qo Tryd.underlying24 rfl qf ?_; (try simp only [Act.put, List.setIfInBounds_toArray, List.set_cons_zero, List.set_cons_succ])) | ((with_reducible refine gate_dst (N := 1) rfl ?_); refine box_event ?hg (N := 1) ?hd (cs := #[.int .i64 a0_0, .bool a0_1, .bool a0_2, .bool a0_3, .bool a0_4, .bool a0_5, .bool a0_6, .int .i64 a0_7, .int .u64 a0_8, .int .i64 a0_9, .int .u64 a0_10, .int .i64 a0_11, .int .i64 a0_12, .int .i64 a0_13, .int .i64 a0_14, .int .i64 a0_15]) (t := 24) ?hr ?_; (case hd => rfl); (case hg => rfl); (case hr => first | (go_simp; done) | (go_simp; rfl)); intro gb115 hg w47 hbox hb; have n0_ := Aside0.mk (below_step qbh hb); have n1_ := Aside0.mk (hbox); have n2_ := Aside0.mk ((qcq : w.heap.size ≤ gb115)); have n3_ := Aside0.mk ((qcq : w.heap.size ≤ gb115)); clear HB; have HB := n0_; have BK115 := n1_; have GW115 := n2_; have GE115 := n3_; clear n0_ n1_ n2_ n3_; clear hb hbox hg; obtain ⟨hcz48_0, hcz48_1, hcz48_2, hcz48_3, hcz48_4, hcz48_5, hcz48_6, hcz48_7, hcz48_8, hcz48_9, hcz48_10, hcz48_11, hcz48_12, hcz48_13, hcz48_14, hcz48_15⟩ := cells16 BK115.out; obtain ⟨hfz48_0, hfz48_1, hfz48_2, hfz48_3, hfz48_4, hfz48_5, hfz48_6, hfz48_7, hfz48_8, hfz48_9, hfz48_10, hfz48_11, hfz48_12, hfz48_13, hfz48_14, hfz48_15⟩ := frozen16 BK115.out) | ((with_reducible refine gate_callee (f := 11) rfl ?_); refine goesL_ (some 11) rfl rfl Tryd.func11 qf rfl #[.agg #[.int .i64 a0_0, .bool a0_1, .bool a0_2, .bool a0_3, .bool a0_4, .bool a0_5, .bool a0_6, .int .i64 a0_7, .int .u64 a0_8, .int .i64 a0_9, .int .u64 a0_10, .int .i64 a0_11, .int .i64 a0_12, .int .i64 a0_13, .int .i64 a0_14, .int .i64 a0_15]] rfl qbi ?_; (with_reducible refine (bpdu_Check.calls k a0_0 a0_1 a0_2 a0_3 a0_4 a0_5 a0_6 a0_7 a0_8 a0_9 a0_10 a0_11 a0_12 a0_13 a0_14 a0_15 t116 _ A2.out).mono ?_); rintro e w49 ⟨rfl, hb⟩; refine ⟨_, rfl, ?_⟩; have n0_ := Aside0.mk (blk_below (g := gb115) qv hb); have n1_ := Aside0.mk (below_step qbl hb); clear BK115; clear HB; have BK115 := n0_; have HB := n1_; clear n0_ n1_; obtain ⟨hcy1_115_0, hcy1_115_1, hcy1_115_2, hcy1_115_3, hcy1_115_4, hcy1_115_5, hcy1_115_6, hcy1_115_7, hcy1_115_8, hcy1_115_9, hcy1_115_10, hcy1_115_11, hcy1_115_12, hcy1_115_13, hcy1_115_14, hcy1_115_15⟩ := cells16 BK115.out; (try clear hb); (try clear hb2); (try clear hk); (try clear hi)))
  go_ret2
  exact ⟨by first | rfl | (simp [errW_none, errW_some] <;> rfl) | (simp [*, errW_none, errW_some] <;> rfl) | (simp [*, IntKind.wrap_u32]; done) | (simp_all [IntKind.wrap_u32]; done), by repeat (first | (with_reducible first | exact HB.out | apply below_alloc | apply pw_below_drewN | apply below_drew1 | refine below_set ?_ GE115.out) | exact HB.out)⟩
end Go.Proofs.YtbfjlhjfpmgplaaDoor.P
