-- slim
-- Written by wip/hprint.py (this session's program) through the kit's print program; hand contracts are marked 'by hand'.
import Derived.Test.YtbfjlhjfpmgplaaDoorAbb
import Derived.Test.YtbfjlhjfpmgplaaDoorRow
import Derived.Test.YtbfjlhjfpmgplaaDoorPx0
import Derived.Test.YtbfjlhjfpmgplaaDoorPx16
import Derived.Test.YtbfjlhjfpmgplaaDoorPx17
namespace Go.Proofs.YtbfjlhjfpmgplaaDoor.P
open Go.RowKit Go.Proofs.YtbfjlhjfpmgplaaDoorW.PrintWords Go.Proofs.YtbfjlhjfpmgplaaDoorW.PrintLast Go.Proofs.YtbfjlhjfpmgplaaDoorW.PrintMore
attribute [local go_sem] max2_int min2_int max_two min_two max_three min_three max_four min_four   -- for this text's walks alone
set_option linter.unusedVariables false
set_option linter.unusedSimpArgs false

/-! ### gangwayref09_Build: function 9 -/
def gangwayref09_Build.f (k : Nat) (a0_0 : Int) (a0_1 : Bool) (a0_2 : Bool) (a0_3 : Bool) (a0_4 : Bool) (a0_5 : Bool) (a0_6 : Bool) (a0_7 : Int) (a0_8 : Int) (a0_9 : Int) (a0_10 : Int) (a0_11 : Int) (a0_12 : Int) (a0_13 : Int) (a0_14 : Int) (a0_15 : Int) : Option (ByteArray × Int) := (gangwayref09_Check.f k a0_0 a0_1 a0_2 a0_3 a0_4 a0_5 a0_6 a0_7 a0_8 a0_9 a0_10 a0_11 a0_12 a0_13 a0_14 a0_15).bind fun t377 => (if t377 = 0 then (if a0_0 = 128 then (if 5 + 2 ≤ 9223372036854775807 then (some ((⟨#[66, 66, 3, 0, 0]⟩ : ByteArray) ++ (⟨#[0, 128]⟩ : ByteArray), 0)) else (none)) else ((gangwayref09_bit.f a0_1 1).bind fun t378 => ((gangwayref09_bit.f a0_2 2).bind fun t379 => ((gangwayref09_bit.f a0_3 16).bind fun t380 => ((gangwayref09_bit.f a0_4 32).bind fun t381 => ((gangwayref09_bit.f a0_5 64).bind fun t382 => ((gangwayref09_bit.f a0_6 128).bind fun t383 => ((gangwayref01_Bytes.f k (IntKind.u64.wrap (wrap64 ((wrap64 ((wrap64 ((wrap64 ((wrap64 ((wrap64 (t378 + t379)) + (wrap64 (4 * a0_7)))) + t380)) + t381)) + t382)) + t383))) 1).bind fun t384 => ((gangwayref01_Bytes.f k a0_8 8).bind fun t385 => (if t384.size + t385.size ≤ 9223372036854775807 then ((gangwayref01_Bytes.f k (IntKind.u64.wrap (a0_9)) 4).bind fun t386 => (if (t384 ++ t385).size + t386.size ≤ 9223372036854775807 then ((gangwayref01_Bytes.f k a0_10 8).bind fun t387 => (if ((t384 ++ t385) ++ t386).size + t387.size ≤ 9223372036854775807 then ((gangwayref01_Bytes.f k (IntKind.u64.wrap (a0_11)) 2).bind fun t388 => (if (((t384 ++ t385) ++ t386) ++ t387).size + t388.size ≤ 9223372036854775807 then ((gangwayref01_Bytes.f k (IntKind.u64.wrap (a0_12)) 2).bind fun t389 => (if ((((t384 ++ t385) ++ t386) ++ t387) ++ t388).size + t389.size ≤ 9223372036854775807 then ((gangwayref01_Bytes.f k (IntKind.u64.wrap (a0_13)) 2).bind fun t390 => (if (((((t384 ++ t385) ++ t386) ++ t387) ++ t388) ++ t389).size + t390.size ≤ 9223372036854775807 then ((gangwayref01_Bytes.f k (IntKind.u64.wrap (a0_14)) 2).bind fun t391 => (if ((((((t384 ++ t385) ++ t386) ++ t387) ++ t388) ++ t389) ++ t390).size + t391.size ≤ 9223372036854775807 then ((gangwayref01_Bytes.f k (IntKind.u64.wrap (a0_15)) 2).bind fun t392 => (if (((((((t384 ++ t385) ++ t386) ++ t387) ++ t388) ++ t389) ++ t390) ++ t391).size + t392.size ≤ 9223372036854775807 then (if a0_0 = 2 then (if 5 + 2 ≤ 9223372036854775807 then (if 7 + ((((((((t384 ++ t385) ++ t386) ++ t387) ++ t388) ++ t389) ++ t390) ++ t391) ++ t392).size ≤ 9223372036854775807 then (if (((⟨#[66, 66, 3, 0, 0]⟩ : ByteArray) ++ (⟨#[2, 2]⟩ : ByteArray)) ++ ((((((((t384 ++ t385) ++ t386) ++ t387) ++ t388) ++ t389) ++ t390) ++ t391) ++ t392)).size + 1 ≤ 9223372036854775807 then (some ((((⟨#[66, 66, 3, 0, 0]⟩ : ByteArray) ++ (⟨#[2, 2]⟩ : ByteArray)) ++ ((((((((t384 ++ t385) ++ t386) ++ t387) ++ t388) ++ t389) ++ t390) ++ t391) ++ t392)) ++ (⟨#[0]⟩ : ByteArray), 0)) else (none)) else (none)) else (none)) else (if 5 + 2 ≤ 9223372036854775807 then (if 7 + ((((((((t384 ++ t385) ++ t386) ++ t387) ++ t388) ++ t389) ++ t390) ++ t391) ++ t392).size ≤ 9223372036854775807 then (some (((⟨#[66, 66, 3, 0, 0]⟩ : ByteArray) ++ (⟨#[0, 0]⟩ : ByteArray)) ++ ((((((((t384 ++ t385) ++ t386) ++ t387) ++ t388) ++ t389) ++ t390) ++ t391) ++ t392), 0)) else (none)) else (none))) else (none))) else (none))) else (none))) else (none))) else (none))) else (none))) else (none))) else (none))))))))))) else (some ((⟨#[]⟩ : ByteArray), t377)))
theorem gangwayref09_Build.mono : ∀ a0 a1 a2 a3 a4 a5 a6 a7 a8 a9 a10 a11 a12 a13 a14 a15 k, LeO (gangwayref09_Build.f k a0 a1 a2 a3 a4 a5 a6 a7 a8 a9 a10 a11 a12 a13 a14 a15) (gangwayref09_Build.f (k + 1) a0 a1 a2 a3 a4 a5 a6 a7 a8 a9 a10 a11 a12 a13 a14 a15) := by
 intro a0 a1 a2 a3 a4 a5 a6 a7 a8 a9 a10 a11 a12 a13 a14 a15 k
 unfold gangwayref09_Build.f
 repeat' first
   | (with_reducible exact gangwayref01_Bytes.mono _ _ _)
   | (with_reducible exact gangwayref09_Check.mono _ _ _ _ _ _ _ _ _ _ _ _ _ _ _ _ _)
   | (with_reducible exact LeO.refl _)
   | (with_reducible exact LeO.none _)
   | (with_reducible refine LeO.ite ?_ ?_)
   | (with_reducible refine LeO.bind ?_ (fun _ => ?_))
   | exact gangwayref01_Bytes.mono _ _ _
   | exact gangwayref09_Check.mono _ _ _ _ _ _ _ _ _ _ _ _ _ _ _ _ _
   | exact LeO.none _
   | refine LeO.ite ?_ ?_
   | refine LeO.bind ?_ (fun _ => ?_)
def gangwayref09_Build.T7 : Bool × List (List Nat × List Nat) := (true, [([], []), ([0], [0]), ([1], [1]), ([], []), ([3], [3]), ([4, 2], [4]), ([2, 5], [2, 5]), ([], []), ([7], [7]), ([8], [8]), ([6, 9], [6, 9]), ([], []), ([11], [11]), ([12, 5], [12]), ([10, 13], [10, 13]), ([], []), ([15], [15]), ([16, 13], [16]), ([14, 17], [14, 17]), ([], []), ([19], [19]), ([20, 17], [20]), ([18, 21], [18, 21]), ([], []), ([23], [23]), ([24, 21], [24]), ([22, 25], [22, 25]), ([26, 25, 0, 1, 2, 3, 4, 5, 6, 7, 8, 9, 10, 11, 12, 13, 14, 15, 16, 17, 18, 19, 20, 21, 22, 23, 24, 25, 26], [26])])
def gangwayref09_Build.B7 : List Nat := [0, 1, 3, 0, 8, 31, 63, 0, 128, 384, 1023, 0, 2048, 6207, 16383, 0, 32768, 112703, 262143, 0, 524288, 1816639, 4194303, 0, 8388608, 29079615, 67108863, 134217727]
theorem gangwayref09_Build.tab7 : rtab .any (opsOf Tryd.f9 7) = gangwayref09_Build.T7 := by kernel_rfl
theorem gangwayref09_Build.bits7 : waitsOk gangwayref09_Build.T7.2 gangwayref09_Build.B7 = true := by kernel_rfl
def gangwayref09_Build.T8 : Bool × List (List Nat × List Nat) := (true, [([], []), ([0], [0]), ([1], [1]), ([], []), ([3], [3]), ([4, 2], [4]), ([2, 5], [2, 5]), ([], []), ([7], [7]), ([8], [8]), ([9, 5], [9]), ([6, 10], [6, 10]), ([], []), ([12], [12]), ([13, 10], [13]), ([11, 14], [11, 14]), ([], []), ([16], [16]), ([17], [17]), ([18, 14], [18]), ([15, 19], [15, 19]), ([], []), ([21], [21]), ([22], [22]), ([23, 19], [23]), ([20, 24], [20, 24]), ([], []), ([26], [26]), ([27], [27]), ([28, 24], [28]), ([25, 29], [25, 29]), ([], []), ([31], [31]), ([32], [32]), ([33, 29], [33]), ([30, 34], [30, 34]), ([], []), ([36], [36]), ([37], [37]), ([38, 34], [38]), ([35, 39], [35, 39]), ([40, 39, 0, 1, 2, 3, 4, 5, 6, 7, 8, 9, 10, 11, 12, 13, 14, 15, 16, 17, 18, 19, 20, 21, 22, 23, 24, 25, 26, 27, 28, 29, 30, 31, 32, 33, 34, 35, 36, 37, 38, 39, 40], [40])])
def gangwayref09_Build.B8 : List Nat := [0, 1, 3, 0, 8, 31, 63, 0, 128, 384, 959, 2047, 0, 4096, 14271, 32767, 0, 65536, 196608, 489407, 1048575, 0, 2097152, 6291456, 15693759, 33554431, 0, 67108864, 201326592, 502233023, 1073741823, 0, 2147483648, 6442450944, 16071489471, 34359738367, 0, 68719476736, 206158430208, 514287695807, 1099511627775, 2199023255551]
theorem gangwayref09_Build.tab8 : rtab .any (opsOf Tryd.f9 8) = gangwayref09_Build.T8 := by kernel_rfl
theorem gangwayref09_Build.bits8 : waitsOk gangwayref09_Build.T8.2 gangwayref09_Build.B8 = true := by kernel_rfl
theorem z18_1 {p : Prop} (h : p := by
 simp only [Act.put, List.setIfInBounds_toArray, List.set_cons_zero, List.set_cons_succ, i64_w, i32_w]
 rfl) : p := h
theorem z18_2 {p : Prop} (h : p := by
 rintro w' ⟨szz0, szz1, szz2, szz3, szz4, szz5, szz6, szz7, szz8, szz9, szz10, szz11, szz12, szz13, szz14, szz15⟩
 go_simp
 with_reducible rfl) : p := h
set_option maxRecDepth 100000 in
theorem z18_0 {p : Prop} (h : p := by
 simp only [Option.some.injEq, Prod.mk.injEq] at H
 obtain ⟨rfl, rfl⟩ := H
 go_enter Tryd.func9, Tryd.ntmps9
 try go_wp2_with (first | ((with_reducible refine gate_st (ty := 24) rfl ?_); refine storeC16 rfl rfl rfl rfl rfl qbz qo qf rfl ?_) | ((with_reducible refine gate_ld (ty := 24) rfl ?_); (try (with_reducible refine gate_gd rfl ?_; refine gate_guard qc8 ?_; dsimp only)); refine load_st rfl rfl rfl qbz qo Tryd.underlying24 rfl qf ?_; (try simp only [Act.put, List.setIfInBounds_toArray, List.set_cons_zero, List.set_cons_succ])) | ((with_reducible refine gate_dst (N := 1) rfl ?_); refine box_event ?hg (N := 1) ?hd (cs := #[.int .i64 a0_0, .bool a0_1, .bool a0_2, .bool a0_3, .bool a0_4, .bool a0_5, .bool a0_6, .int .i64 a0_7, .int .u64 a0_8, .int .i64 a0_9, .int .u64 a0_10, .int .i64 a0_11, .int .i64 a0_12, .int .i64 a0_13, .int .i64 a0_14, .int .i64 a0_15]) (t := 24) ?hr ?_; (case hd => rfl); (case hg => rfl); (case hr => first | (go_simp; done) | (go_simp; rfl)); intro gbz0 hg wz1 hbox hb; have nz2_ := Aside0.mk (below_step qbh hb); have nz3_ := Aside0.mk (hbox); have nz4_ := Aside0.mk ((qcq : w.heap.size ≤ gbz0)); have nz5_ := Aside0.mk ((qcq : w.heap.size ≤ gbz0)); clear HB; have HB := nz2_; have BK376 := nz3_; have GWz0 := nz4_; have GEz0 := nz5_; clear nz2_ nz3_ nz4_ nz5_; clear hb hbox hg; obtain ⟨hczz6_0, hczz6_1, hczz6_2, hczz6_3, hczz6_4, hczz6_5, hczz6_6, hczz6_7, hczz6_8, hczz6_9, hczz6_10, hczz6_11, hczz6_12, hczz6_13, hczz6_14, hczz6_15⟩ := cells16 BK376.out; obtain ⟨hfzz6_0, hfzz6_1, hfzz6_2, hfzz6_3, hfzz6_4, hfzz6_5, hfzz6_6, hfzz6_7, hfzz6_8, hfzz6_9, hfzz6_10, hfzz6_11, hfzz6_12, hfzz6_13, hfzz6_14, hfzz6_15⟩ := frozen16 BK376.out) | ((with_reducible refine gate_callee (f := 12) rfl ?_); refine goesL_ (some 9) rfl rfl Tryd.func12 qf rfl #[.agg #[.int .i64 a0_0, .bool a0_1, .bool a0_2, .bool a0_3, .bool a0_4, .bool a0_5, .bool a0_6, .int .i64 a0_7, .int .u64 a0_8, .int .i64 a0_9, .int .u64 a0_10, .int .i64 a0_11, .int .i64 a0_12, .int .i64 a0_13, .int .i64 a0_14, .int .i64 a0_15]] rfl qbi ?_; (with_reducible refine (gangwayref09_Check.calls k a0_0 a0_1 a0_2 a0_3 a0_4 a0_5 a0_6 a0_7 a0_8 a0_9 a0_10 a0_11 a0_12 a0_13 a0_14 a0_15 t377 _ A2.out).mono ?_); rintro e wz7 ⟨rfl, hb⟩; refine ⟨_, rfl, ?_⟩; have nz2_ := Aside0.mk (blk_below (g := gbz0) q2 hb); have nz3_ := Aside0.mk (below_step qbj hb); clear BK376; clear HB; have BK376 := nz2_; have HB := nz3_; clear nz2_ nz3_; (try clear hb); (try clear hb2); (try clear hk); (try clear hi); obtain ⟨hczz8_0, hczz8_1, hczz8_2, hczz8_3, hczz8_4, hczz8_5, hczz8_6, hczz8_7, hczz8_8, hczz8_9, hczz8_10, hczz8_11, hczz8_12, hczz8_13, hczz8_14, hczz8_15⟩ := cells16 BK376.out; obtain ⟨hfzz8_0, hfzz8_1, hfzz8_2, hfzz8_3, hfzz8_4, hfzz8_5, hfzz8_6, hfzz8_7, hfzz8_8, hfzz8_9, hfzz8_10, hfzz8_11, hfzz8_12, hfzz8_13, hfzz8_14, hfzz8_15⟩ := frozen16 BK376.out))
 refine start_ (n := 28) (S := fun w' => w'.cell? ⟨gbz0, 0, none⟩ = some (.int .i64 a0_0) ∧ w'.cell? ⟨gbz0, 1, none⟩ = some (.bool a0_1) ∧ w'.cell? ⟨gbz0, 2, none⟩ = some (.bool a0_2) ∧ w'.cell? ⟨gbz0, 3, none⟩ = some (.bool a0_3) ∧ w'.cell? ⟨gbz0, 4, none⟩ = some (.bool a0_4) ∧ w'.cell? ⟨gbz0, 5, none⟩ = some (.bool a0_5) ∧ w'.cell? ⟨gbz0, 6, none⟩ = some (.bool a0_6) ∧ w'.cell? ⟨gbz0, 7, none⟩ = some (.int .i64 a0_7) ∧ w'.cell? ⟨gbz0, 8, none⟩ = some (.int .u64 a0_8) ∧ w'.cell? ⟨gbz0, 9, none⟩ = some (.int .i64 a0_9) ∧ w'.cell? ⟨gbz0, 10, none⟩ = some (.int .u64 a0_10) ∧ w'.cell? ⟨gbz0, 11, none⟩ = some (.int .i64 a0_11) ∧ w'.cell? ⟨gbz0, 12, none⟩ = some (.int .i64 a0_12) ∧ w'.cell? ⟨gbz0, 13, none⟩ = some (.int .i64 a0_13) ∧ w'.cell? ⟨gbz0, 14, none⟩ = some (.int .i64 a0_14) ∧ w'.cell? ⟨gbz0, 15, none⟩ = some (.int .i64 a0_15)) (ds := []) #[false, false, false, false, false, false, false, false, false, false, false, false, false, false, false, false, false, false, false, false, false, false, false, false, false, false, false, false] qf rfl rfl ⟨(blk_cell BK376.out 0).trans rfl, (blk_cell BK376.out 1).trans rfl, (blk_cell BK376.out 2).trans rfl, (blk_cell BK376.out 3).trans rfl, (blk_cell BK376.out 4).trans rfl, (blk_cell BK376.out 5).trans rfl, (blk_cell BK376.out 6).trans rfl, (blk_cell BK376.out 7).trans rfl, (blk_cell BK376.out 8).trans rfl, (blk_cell BK376.out 9).trans rfl, (blk_cell BK376.out 10).trans rfl, (blk_cell BK376.out 11).trans rfl, (blk_cell BK376.out 12).trans rfl, (blk_cell BK376.out 13).trans rfl, (blk_cell BK376.out 14).trans rfl, (blk_cell BK376.out 15).trans rfl⟩ (fun hHeld => ?_); refine with_tabW gangwayref09_Build.tab7 gangwayref09_Build.bits7 (fun HT_ HW_ => ?_)
 generalize hqz4_ : World.drew _ = wz9 at hHeld ⊢
 have nz2_ : Aside0 (wz9.heap[gbz0]? = some (.cells #[.int .i64 a0_0, .bool a0_1, .bool a0_2, .bool a0_3, .bool a0_4, .bool a0_5, .bool a0_6, .int .i64 a0_7, .int .u64 a0_8, .int .i64 a0_9, .int .u64 a0_10, .int .i64 a0_11, .int .i64 a0_12, .int .i64 a0_13, .int .i64 a0_14, .int .i64 a0_15] 24 (0, 0))) := ⟨by rw [← hqz4_]; (with_reducible repeat (first | refine blk_drewN ?_ _ | refine blk_drew ?_ | refine blk_alloc ?_ _)); exact BK376.out⟩
 have nz3_ : Aside0 (Below w.heap.size w wz9) := ⟨by rw [← hqz4_]; repeat (first | (with_reducible exact HB.out) | apply below_drew1 | apply pw_below_drewN | apply below_alloc)⟩
 clear BK376 HB hqz4_
 have BK376 := nz2_
 have HB := nz3_
 clear nz2_ nz3_
 refine pure_ (i := 0) (N := some 18) (v := ?_) (a' := ?_) #[true, false, false, false, false, false, false, false, false, false, false, false, false, false, false, false, false, false, false, false, false, false, false, false, false, false, false, false] rfl rfl (any_of HT_.out qf) (fun _ _ _ h => h) (Or.inl ⟨by rfl, ?_⟩) ?_ ?_
 rotate_left
 ·intro w'
  go_simp
  with_reducible rfl
 rotate_left
 ·exact z18_1
 refine pure_ (i := 3) (N := some 21) (v := ?_) (a' := ?_) #[true, false, false, true, false, false, false, false, false, false, false, false, false, false, false, false, false, false, false, false, false, false, false, false, false, false, false, false] rfl rfl (any_of HT_.out qf) (fun _ _ _ h => h) (Or.inl ⟨by rfl, ?_⟩) ?_ ?_
 rotate_left
 ·intro w'
  go_simp
  with_reducible rfl
 rotate_left
 ·exact z18_1
 refine pure_ (i := 7) (N := some 25) (v := ?_) (a' := ?_) #[true, false, false, true, false, false, false, true, false, false, false, false, false, false, false, false, false, false, false, false, false, false, false, false, false, false, false, false] rfl rfl (any_of HT_.out qf) (fun _ _ _ h => h) (Or.inl ⟨by rfl, ?_⟩) ?_ ?_
 rotate_left
 ·intro w'
  go_simp
  with_reducible rfl
 rotate_left
 ·exact z18_1
 refine pure_ (i := 11) (N := some 29) (v := ?_) (a' := ?_) #[true, false, false, true, false, false, false, true, false, false, false, true, false, false, false, false, false, false, false, false, false, false, false, false, false, false, false, false] rfl rfl (any_of HT_.out qf) (fun _ _ _ h => h) (Or.inl ⟨by rfl, ?_⟩) ?_ ?_
 rotate_left
 ·intro w'
  go_simp
  with_reducible rfl
 rotate_left
 ·exact z18_1
 refine pure_ (i := 15) (N := some 33) (v := ?_) (a' := ?_) #[true, false, false, true, false, false, false, true, false, false, false, true, false, false, false, true, false, false, false, false, false, false, false, false, false, false, false, false] rfl rfl (any_of HT_.out qf) (fun _ _ _ h => h) (Or.inl ⟨by rfl, ?_⟩) ?_ ?_
 rotate_left
 ·intro w'
  go_simp
  with_reducible rfl
 rotate_left
 ·exact z18_1
 refine pure_ (i := 19) (N := some 37) (v := ?_) (a' := ?_) #[true, false, false, true, false, false, false, true, false, false, false, true, false, false, false, true, false, false, false, true, false, false, false, false, false, false, false, false] rfl rfl (any_of HT_.out qf) (fun _ _ _ h => h) (Or.inl ⟨by rfl, ?_⟩) ?_ ?_
 rotate_left
 ·intro w'
  go_simp
  with_reducible rfl
 rotate_left
 ·exact z18_1
 refine pure_ (i := 23) (N := some 41) (v := ?_) (a' := ?_) #[true, false, false, true, false, false, false, true, false, false, false, true, false, false, false, true, false, false, false, true, false, false, false, true, false, false, false, false] rfl rfl (any_of HT_.out qf) (fun _ _ _ h => h) (Or.inl ⟨by rfl, ?_⟩) ?_ ?_
 rotate_left
 ·intro w'
  go_simp
  with_reducible rfl
 rotate_left
 ·exact z18_1
 refine take_ (i := 1) (N := some 19) (v := ?_) (a' := ?_) #[true, true, false, true, false, false, false, true, false, false, false, true, false, false, false, true, false, false, false, true, false, false, false, true, false, false, false, false] rfl rfl (take_ofW HT_.out HW_.out qf) (fun _ _ _ h => h) (Or.inl ⟨by rfl, ?_⟩) hHeld ?_ ?_
 rotate_left
 ·exact z18_2
 rotate_left
 ·exact z18_1
 refine take_ (i := 4) (N := some 22) (v := ?_) (a' := ?_) #[true, true, false, true, true, false, false, true, false, false, false, true, false, false, false, true, false, false, false, true, false, false, false, true, false, false, false, false] rfl rfl (take_ofW HT_.out HW_.out qf) (fun _ _ _ h => h) (Or.inl ⟨by rfl, ?_⟩) hHeld ?_ ?_
 rotate_left
 ·exact z18_2
 rotate_left
 ·exact z18_1
 refine take_ (i := 8) (N := some 26) (v := ?_) (a' := ?_) #[true, true, false, true, true, false, false, true, true, false, false, true, false, false, false, true, false, false, false, true, false, false, false, true, false, false, false, false] rfl rfl (take_ofW HT_.out HW_.out qf) (fun _ _ _ h => h) (Or.inl ⟨by rfl, ?_⟩) hHeld ?_ ?_
 rotate_left
 ·exact z18_2
 rotate_left
 ·exact z18_1
 refine pure_ (i := 9) (N := some 27) (v := ?_) (a' := ?_) #[true, true, false, true, true, false, false, true, true, true, false, true, false, false, false, true, false, false, false, true, false, false, false, true, false, false, false, false] rfl rfl (any_of HT_.out qf) (fun _ _ _ h => h) (Or.inl ⟨by rfl, ?_⟩) ?_ ?_
 rotate_left
 ·intro w'
  go_simp
  with_reducible rfl
 rotate_left
 ·exact z18_1
 refine take_ (i := 12) (N := some 30) (v := ?_) (a' := ?_) #[true, true, false, true, true, false, false, true, true, true, false, true, true, false, false, true, false, false, false, true, false, false, false, true, false, false, false, false] rfl rfl (take_ofW HT_.out HW_.out qf) (fun _ _ _ h => h) (Or.inl ⟨by rfl, ?_⟩) hHeld ?_ ?_
 rotate_left
 ·exact z18_2
 rotate_left
 ·exact z18_1
 refine take_ (i := 16) (N := some 34) (v := ?_) (a' := ?_) #[true, true, false, true, true, false, false, true, true, true, false, true, true, false, false, true, true, false, false, true, false, false, false, true, false, false, false, false] rfl rfl (take_ofW HT_.out HW_.out qf) (fun _ _ _ h => h) (Or.inl ⟨by rfl, ?_⟩) hHeld ?_ ?_
 rotate_left
 ·exact z18_2
 rotate_left
 ·exact z18_1
 refine take_ (i := 20) (N := some 38) (v := ?_) (a' := ?_) #[true, true, false, true, true, false, false, true, true, true, false, true, true, false, false, true, true, false, false, true, true, false, false, true, false, false, false, false] rfl rfl (take_ofW HT_.out HW_.out qf) (fun _ _ _ h => h) (Or.inl ⟨by rfl, ?_⟩) hHeld ?_ ?_
 rotate_left
 ·exact z18_2
 rotate_left
 ·exact z18_1
 refine take_ (i := 24) (N := some 42) (v := ?_) (a' := ?_) #[true, true, false, true, true, false, false, true, true, true, false, true, true, false, false, true, true, false, false, true, true, false, false, true, true, false, false, false] rfl rfl (take_ofW HT_.out HW_.out qf) (fun _ _ _ h => h) (Or.inl ⟨by rfl, ?_⟩) hHeld ?_ ?_
 rotate_left
 ·exact z18_2
 rotate_left
 ·exact z18_1
 refine one_ (i := 2) (N := some 20) #[true, true, true, true, true, false, false, true, true, true, false, true, true, false, false, true, true, false, false, true, true, false, false, true, true, false, false, false] rfl rfl (one_of HT_.out qf) qd (fun K hK => ?_)
 refine goes_ Tryd.func21 qf rfl #[.bool a0_1, .int .i64 1] qcx rfl rfl qbi ?_
 with_reducible refine (gangwayref09_bit.calls a0_1 1 t378 _ A10.out).mono ?_
 rintro e w' ⟨rfl, ⟨nd, rfl⟩⟩
 refine ⟨_, rfl, ?_⟩
 refine hK.out _ _ ⟨(blk_cell BK376.out 0).trans rfl, (blk_cell BK376.out 1).trans rfl, (blk_cell BK376.out 2).trans rfl, (blk_cell BK376.out 3).trans rfl, (blk_cell BK376.out 4).trans rfl, (blk_cell BK376.out 5).trans rfl, (blk_cell BK376.out 6).trans rfl, (blk_cell BK376.out 7).trans rfl, (blk_cell BK376.out 8).trans rfl, (blk_cell BK376.out 9).trans rfl, (blk_cell BK376.out 10).trans rfl, (blk_cell BK376.out 11).trans rfl, (blk_cell BK376.out 12).trans rfl, (blk_cell BK376.out 13).trans rfl, (blk_cell BK376.out 14).trans rfl, (blk_cell BK376.out 15).trans rfl⟩ (fun hHeld => ?_)
 clear hK K
 refine norm_ (a' := ?_) ?_ ?_
 rotate_left
 ·show Act.put _ (some 20) _ = _
  simp only [Act.put, List.setIfInBounds_toArray, List.set_cons_zero, List.set_cons_succ, i64_w, i32_w]
  rfl
 refine one_ (i := 5) (N := some 23) #[true, true, true, true, true, true, false, true, true, true, false, true, true, false, false, true, true, false, false, true, true, false, false, true, true, false, false, false] rfl rfl (one_of HT_.out qf) qd (fun K hK => ?_)
 refine goes_ Tryd.func21 qf rfl #[.bool a0_2, .int .i64 2] qcx rfl rfl qbi ?_
 with_reducible refine (gangwayref09_bit.calls a0_2 2 t379 _ A11.out).mono ?_
 rintro e w' ⟨rfl, ⟨nd, rfl⟩⟩
 refine ⟨_, rfl, ?_⟩
 refine hK.out _ _ ⟨(blk_cell BK376.out 0).trans rfl, (blk_cell BK376.out 1).trans rfl, (blk_cell BK376.out 2).trans rfl, (blk_cell BK376.out 3).trans rfl, (blk_cell BK376.out 4).trans rfl, (blk_cell BK376.out 5).trans rfl, (blk_cell BK376.out 6).trans rfl, (blk_cell BK376.out 7).trans rfl, (blk_cell BK376.out 8).trans rfl, (blk_cell BK376.out 9).trans rfl, (blk_cell BK376.out 10).trans rfl, (blk_cell BK376.out 11).trans rfl, (blk_cell BK376.out 12).trans rfl, (blk_cell BK376.out 13).trans rfl, (blk_cell BK376.out 14).trans rfl, (blk_cell BK376.out 15).trans rfl⟩ (fun hHeld => ?_)
 clear hK K
 refine norm_ (a' := ?_) ?_ ?_
 rotate_left
 ·show Act.put _ (some 23) _ = _
  simp only [Act.put, List.setIfInBounds_toArray, List.set_cons_zero, List.set_cons_succ, i64_w, i32_w]
  rfl
 refine pure_ (i := 6) (N := some 24) (v := ?_) (a' := ?_) #[true, true, true, true, true, true, true, true, true, true, false, true, true, false, false, true, true, false, false, true, true, false, false, true, true, false, false, false] rfl rfl (any_of HT_.out qf) (fun _ _ _ h => h) (Or.inl ⟨by rfl, ?_⟩) ?_ ?_
 rotate_left
 ·intro w'
  go_simp
  with_reducible rfl
 rotate_left
 ·exact z18_1
 refine pure_ (i := 10) (N := some 28) (v := ?_) (a' := ?_) #[true, true, true, true, true, true, true, true, true, true, true, true, true, false, false, true, true, false, false, true, true, false, false, true, true, false, false, false] rfl rfl (any_of HT_.out qf) (fun _ _ _ h => h) (Or.inl ⟨by rfl, ?_⟩) ?_ ?_
 rotate_left
 ·intro w'
  go_simp
  with_reducible rfl
 rotate_left
 ·exact z18_1
 refine one_ (i := 13) (N := some 31) #[true, true, true, true, true, true, true, true, true, true, true, true, true, true, false, true, true, false, false, true, true, false, false, true, true, false, false, false] rfl rfl (one_of HT_.out qf) qd (fun K hK => ?_)
 refine goes_ Tryd.func21 qf rfl #[.bool a0_3, .int .i64 16] qcx rfl rfl qbi ?_
 with_reducible refine (gangwayref09_bit.calls a0_3 16 t380 _ A12.out).mono ?_
 rintro e w' ⟨rfl, ⟨nd, rfl⟩⟩
 refine ⟨_, rfl, ?_⟩
 refine hK.out _ _ ⟨(blk_cell BK376.out 0).trans rfl, (blk_cell BK376.out 1).trans rfl, (blk_cell BK376.out 2).trans rfl, (blk_cell BK376.out 3).trans rfl, (blk_cell BK376.out 4).trans rfl, (blk_cell BK376.out 5).trans rfl, (blk_cell BK376.out 6).trans rfl, (blk_cell BK376.out 7).trans rfl, (blk_cell BK376.out 8).trans rfl, (blk_cell BK376.out 9).trans rfl, (blk_cell BK376.out 10).trans rfl, (blk_cell BK376.out 11).trans rfl, (blk_cell BK376.out 12).trans rfl, (blk_cell BK376.out 13).trans rfl, (blk_cell BK376.out 14).trans rfl, (blk_cell BK376.out 15).trans rfl⟩ (fun hHeld => ?_)
 clear hK K
 refine norm_ (a' := ?_) ?_ ?_
 rotate_left
 ·show Act.put _ (some 31) _ = _
  simp only [Act.put, List.setIfInBounds_toArray, List.set_cons_zero, List.set_cons_succ, i64_w, i32_w]
  rfl
 refine pure_ (i := 14) (N := some 32) (v := ?_) (a' := ?_) #[true, true, true, true, true, true, true, true, true, true, true, true, true, true, true, true, true, false, false, true, true, false, false, true, true, false, false, false] rfl rfl (any_of HT_.out qf) (fun _ _ _ h => h) (Or.inl ⟨by rfl, ?_⟩) ?_ ?_
 rotate_left
 ·intro w'
  go_simp
  with_reducible rfl
 rotate_left
 ·exact z18_1
 refine one_ (i := 17) (N := some 35) #[true, true, true, true, true, true, true, true, true, true, true, true, true, true, true, true, true, true, false, true, true, false, false, true, true, false, false, false] rfl rfl (one_of HT_.out qf) qd (fun K hK => ?_)
 refine goes_ Tryd.func21 qf rfl #[.bool a0_4, .int .i64 32] qcx rfl rfl qbi ?_
 with_reducible refine (gangwayref09_bit.calls a0_4 32 t381 _ A13.out).mono ?_
 rintro e w' ⟨rfl, ⟨nd, rfl⟩⟩
 refine ⟨_, rfl, ?_⟩
 refine hK.out _ _ ⟨(blk_cell BK376.out 0).trans rfl, (blk_cell BK376.out 1).trans rfl, (blk_cell BK376.out 2).trans rfl, (blk_cell BK376.out 3).trans rfl, (blk_cell BK376.out 4).trans rfl, (blk_cell BK376.out 5).trans rfl, (blk_cell BK376.out 6).trans rfl, (blk_cell BK376.out 7).trans rfl, (blk_cell BK376.out 8).trans rfl, (blk_cell BK376.out 9).trans rfl, (blk_cell BK376.out 10).trans rfl, (blk_cell BK376.out 11).trans rfl, (blk_cell BK376.out 12).trans rfl, (blk_cell BK376.out 13).trans rfl, (blk_cell BK376.out 14).trans rfl, (blk_cell BK376.out 15).trans rfl⟩ (fun hHeld => ?_)
 clear hK K
 refine norm_ (a' := ?_) ?_ ?_
 rotate_left
 ·show Act.put _ (some 35) _ = _
  simp only [Act.put, List.setIfInBounds_toArray, List.set_cons_zero, List.set_cons_succ, i64_w, i32_w]
  rfl
 refine pure_ (i := 18) (N := some 36) (v := ?_) (a' := ?_) #[true, true, true, true, true, true, true, true, true, true, true, true, true, true, true, true, true, true, true, true, true, false, false, true, true, false, false, false] rfl rfl (any_of HT_.out qf) (fun _ _ _ h => h) (Or.inl ⟨by rfl, ?_⟩) ?_ ?_
 rotate_left
 ·intro w'
  go_simp
  with_reducible rfl
 rotate_left
 ·exact z18_1
 refine one_ (i := 21) (N := some 39) #[true, true, true, true, true, true, true, true, true, true, true, true, true, true, true, true, true, true, true, true, true, true, false, true, true, false, false, false] rfl rfl (one_of HT_.out qf) qd (fun K hK => ?_)
 refine goes_ Tryd.func21 qf rfl #[.bool a0_5, .int .i64 64] qcx rfl rfl qbi ?_
 with_reducible refine (gangwayref09_bit.calls a0_5 64 t382 _ A14.out).mono ?_
 rintro e w' ⟨rfl, ⟨nd, rfl⟩⟩
 refine ⟨_, rfl, ?_⟩
 refine hK.out _ _ ⟨(blk_cell BK376.out 0).trans rfl, (blk_cell BK376.out 1).trans rfl, (blk_cell BK376.out 2).trans rfl, (blk_cell BK376.out 3).trans rfl, (blk_cell BK376.out 4).trans rfl, (blk_cell BK376.out 5).trans rfl, (blk_cell BK376.out 6).trans rfl, (blk_cell BK376.out 7).trans rfl, (blk_cell BK376.out 8).trans rfl, (blk_cell BK376.out 9).trans rfl, (blk_cell BK376.out 10).trans rfl, (blk_cell BK376.out 11).trans rfl, (blk_cell BK376.out 12).trans rfl, (blk_cell BK376.out 13).trans rfl, (blk_cell BK376.out 14).trans rfl, (blk_cell BK376.out 15).trans rfl⟩ (fun hHeld => ?_)
 clear hK K
 refine norm_ (a' := ?_) ?_ ?_
 rotate_left
 ·show Act.put _ (some 39) _ = _
  simp only [Act.put, List.setIfInBounds_toArray, List.set_cons_zero, List.set_cons_succ, i64_w, i32_w]
  rfl
 refine pure_ (i := 22) (N := some 40) (v := ?_) (a' := ?_) #[true, true, true, true, true, true, true, true, true, true, true, true, true, true, true, true, true, true, true, true, true, true, true, true, true, false, false, false] rfl rfl (any_of HT_.out qf) (fun _ _ _ h => h) (Or.inl ⟨by rfl, ?_⟩) ?_ ?_
 rotate_left
 ·intro w'
  go_simp
  with_reducible rfl
 rotate_left
 ·exact z18_1
 refine one_ (i := 25) (N := some 43) #[true, true, true, true, true, true, true, true, true, true, true, true, true, true, true, true, true, true, true, true, true, true, true, true, true, true, false, false] rfl rfl (one_of HT_.out qf) qd (fun K hK => ?_)
 refine goes_ Tryd.func21 qf rfl #[.bool a0_6, .int .i64 128] qcx rfl rfl qbi ?_
 with_reducible refine (gangwayref09_bit.calls a0_6 128 t383 _ A15.out).mono ?_
 rintro e w' ⟨rfl, ⟨nd, rfl⟩⟩
 refine ⟨_, rfl, ?_⟩
 refine hK.out _ _ ⟨(blk_cell BK376.out 0).trans rfl, (blk_cell BK376.out 1).trans rfl, (blk_cell BK376.out 2).trans rfl, (blk_cell BK376.out 3).trans rfl, (blk_cell BK376.out 4).trans rfl, (blk_cell BK376.out 5).trans rfl, (blk_cell BK376.out 6).trans rfl, (blk_cell BK376.out 7).trans rfl, (blk_cell BK376.out 8).trans rfl, (blk_cell BK376.out 9).trans rfl, (blk_cell BK376.out 10).trans rfl, (blk_cell BK376.out 11).trans rfl, (blk_cell BK376.out 12).trans rfl, (blk_cell BK376.out 13).trans rfl, (blk_cell BK376.out 14).trans rfl, (blk_cell BK376.out 15).trans rfl⟩ (fun hHeld => ?_)
 clear hK K
 refine norm_ (a' := ?_) ?_ ?_
 rotate_left
 ·show Act.put _ (some 43) _ = _
  simp only [Act.put, List.setIfInBounds_toArray, List.set_cons_zero, List.set_cons_succ, i64_w, i32_w]
  rfl
 refine pure_ (i := 26) (N := some 44) (v := ?_) (a' := ?_) #[true, true, true, true, true, true, true, true, true, true, true, true, true, true, true, true, true, true, true, true, true, true, true, true, true, true, true, false] rfl rfl (any_of HT_.out qf) (fun _ _ _ h => h) (Or.inl ⟨by rfl, ?_⟩) ?_ ?_
 rotate_left
 ·intro w'
  go_simp
  with_reducible rfl
 rotate_left
 ·exact z18_1
 refine pure_ (i := 27) (N := some 6) (v := ?_) (a' := ?_) #[true, true, true, true, true, true, true, true, true, true, true, true, true, true, true, true, true, true, true, true, true, true, true, true, true, true, true, true] rfl rfl (any_of HT_.out qf) (fun _ _ _ h => h) (Or.inl ⟨by rfl, ?_⟩) ?_ ?_
 rotate_left
 ·intro w'
  go_simp
  with_reducible rfl
 rotate_left
 ·exact z18_1
 refine done_ (done_of HT_.out qf) ?_
 try go_wp2_with (first | ((with_reducible refine gate_st (ty := 24) rfl ?_); refine storeC16 rfl rfl rfl rfl rfl qbz qo qf rfl ?_) | ((with_reducible refine gate_ld (ty := 24) rfl ?_); (try (with_reducible refine gate_gd rfl ?_; refine gate_guard qc8 ?_; dsimp only)); refine load_st rfl rfl rfl qbz qo Tryd.underlying24 rfl qf ?_; (try simp only [Act.put, List.setIfInBounds_toArray, List.set_cons_zero, List.set_cons_succ])) | go_in)
 (try (rw [drewN_self wz9]; generalize hq_ : World.drewN wz9 _ = wz9; have nz2_ : Aside0 (wz9.heap[gbz0]? = some (.cells #[.int .i64 a0_0, .bool a0_1, .bool a0_2, .bool a0_3, .bool a0_4, .bool a0_5, .bool a0_6, .int .i64 a0_7, .int .u64 a0_8, .int .i64 a0_9, .int .u64 a0_10, .int .i64 a0_11, .int .i64 a0_12, .int .i64 a0_13, .int .i64 a0_14, .int .i64 a0_15] 24 (0, 0))) := ⟨by rw [← hq_]; exact q2⟩; have nz3_ : Aside0 (Below w.heap.size w wz9) := ⟨by rw [← hq_]; exact qbj⟩; clear BK376 HB hq_; have BK376 := nz2_; have HB := nz3_; clear nz2_ nz3_))
 refine start_ (n := 42) (S := fun w' => w'.cell? ⟨gbz0, 0, none⟩ = some (.int .i64 a0_0) ∧ w'.cell? ⟨gbz0, 1, none⟩ = some (.bool a0_1) ∧ w'.cell? ⟨gbz0, 2, none⟩ = some (.bool a0_2) ∧ w'.cell? ⟨gbz0, 3, none⟩ = some (.bool a0_3) ∧ w'.cell? ⟨gbz0, 4, none⟩ = some (.bool a0_4) ∧ w'.cell? ⟨gbz0, 5, none⟩ = some (.bool a0_5) ∧ w'.cell? ⟨gbz0, 6, none⟩ = some (.bool a0_6) ∧ w'.cell? ⟨gbz0, 7, none⟩ = some (.int .i64 a0_7) ∧ w'.cell? ⟨gbz0, 8, none⟩ = some (.int .u64 a0_8) ∧ w'.cell? ⟨gbz0, 9, none⟩ = some (.int .i64 a0_9) ∧ w'.cell? ⟨gbz0, 10, none⟩ = some (.int .u64 a0_10) ∧ w'.cell? ⟨gbz0, 11, none⟩ = some (.int .i64 a0_11) ∧ w'.cell? ⟨gbz0, 12, none⟩ = some (.int .i64 a0_12) ∧ w'.cell? ⟨gbz0, 13, none⟩ = some (.int .i64 a0_13) ∧ w'.cell? ⟨gbz0, 14, none⟩ = some (.int .i64 a0_14) ∧ w'.cell? ⟨gbz0, 15, none⟩ = some (.int .i64 a0_15)) (ds := []) #[false, false, false, false, false, false, false, false, false, false, false, false, false, false, false, false, false, false, false, false, false, false, false, false, false, false, false, false, false, false, false, false, false, false, false, false, false, false, false, false, false, false] qf rfl rfl ⟨(blk_cell BK376.out 0).trans rfl, (blk_cell BK376.out 1).trans rfl, (blk_cell BK376.out 2).trans rfl, (blk_cell BK376.out 3).trans rfl, (blk_cell BK376.out 4).trans rfl, (blk_cell BK376.out 5).trans rfl, (blk_cell BK376.out 6).trans rfl, (blk_cell BK376.out 7).trans rfl, (blk_cell BK376.out 8).trans rfl, (blk_cell BK376.out 9).trans rfl, (blk_cell BK376.out 10).trans rfl, (blk_cell BK376.out 11).trans rfl, (blk_cell BK376.out 12).trans rfl, (blk_cell BK376.out 13).trans rfl, (blk_cell BK376.out 14).trans rfl, (blk_cell BK376.out 15).trans rfl⟩ (fun hHeld => ?_); refine with_tabW gangwayref09_Build.tab8 gangwayref09_Build.bits8 (fun HT_ HW_ => ?_)
 generalize hqz4_ : World.drew _ = wz22 at hHeld ⊢
 have nz2_ : Aside0 (wz22.heap[gbz0]? = some (.cells #[.int .i64 a0_0, .bool a0_1, .bool a0_2, .bool a0_3, .bool a0_4, .bool a0_5, .bool a0_6, .int .i64 a0_7, .int .u64 a0_8, .int .i64 a0_9, .int .u64 a0_10, .int .i64 a0_11, .int .i64 a0_12, .int .i64 a0_13, .int .i64 a0_14, .int .i64 a0_15] 24 (0, 0))) := ⟨by rw [← hqz4_]; (with_reducible repeat (first | refine blk_drewN ?_ _ | refine blk_drew ?_ | refine blk_alloc ?_ _)); exact BK376.out⟩
 have nz3_ : Aside0 (Below w.heap.size w wz22) := ⟨by rw [← hqz4_]; repeat (first | (with_reducible exact HB.out) | apply below_drew1 | apply pw_below_drewN | apply below_alloc)⟩
 clear BK376 HB hqz4_
 have BK376 := nz2_
 have HB := nz3_
 clear nz2_ nz3_
 refine pure_ (i := 0) (N := some 45) (v := ?_) (a' := ?_) #[true, false, false, false, false, false, false, false, false, false, false, false, false, false, false, false, false, false, false, false, false, false, false, false, false, false, false, false, false, false, false, false, false, false, false, false, false, false, false, false, false, false] rfl rfl (any_of HT_.out qf) (fun _ _ _ h => h) (Or.inl ⟨by rfl, ?_⟩) ?_ ?_
 rotate_left
 ·intro w'
  go_simp
  with_reducible rfl
 rotate_left
 ·exact z18_1
 refine pure_ (i := 1) (N := some 46) (v := ?_) (a' := ?_) #[true, true, false, false, false, false, false, false, false, false, false, false, false, false, false, false, false, false, false, false, false, false, false, false, false, false, false, false, false, false, false, false, false, false, false, false, false, false, false, false, false, false] rfl rfl (any_of HT_.out qf) (fun _ _ _ h => h) (Or.inl ⟨by rfl, ?_⟩) ?_ ?_
 rotate_left
 ·intro w'
  go_simp
  with_reducible rfl
 rotate_left
 ·exact z18_1
 refine pure_ (i := 3) (N := some 48) (v := ?_) (a' := ?_) #[true, true, false, true, false, false, false, false, false, false, false, false, false, false, false, false, false, false, false, false, false, false, false, false, false, false, false, false, false, false, false, false, false, false, false, false, false, false, false, false, false, false] rfl rfl (any_of HT_.out qf) (fun _ _ _ h => h) (Or.inl ⟨by rfl, ?_⟩) ?_ ?_
 rotate_left
 ·intro w'
  go_simp
  with_reducible rfl
 rotate_left
 ·exact z18_1
 refine pure_ (i := 7) (N := some 52) (v := ?_) (a' := ?_) #[true, true, false, true, false, false, false, true, false, false, false, false, false, false, false, false, false, false, false, false, false, false, false, false, false, false, false, false, false, false, false, false, false, false, false, false, false, false, false, false, false, false] rfl rfl (any_of HT_.out qf) (fun _ _ _ h => h) (Or.inl ⟨by rfl, ?_⟩) ?_ ?_
 rotate_left
 ·intro w'
  go_simp
  with_reducible rfl
 rotate_left
 ·exact z18_1
 refine pure_ (i := 12) (N := some 57) (v := ?_) (a' := ?_) #[true, true, false, true, false, false, false, true, false, false, false, false, true, false, false, false, false, false, false, false, false, false, false, false, false, false, false, false, false, false, false, false, false, false, false, false, false, false, false, false, false, false] rfl rfl (any_of HT_.out qf) (fun _ _ _ h => h) (Or.inl ⟨by rfl, ?_⟩) ?_ ?_
 rotate_left
 ·intro w'
  go_simp
  with_reducible rfl
 rotate_left
 ·exact z18_1
 refine pure_ (i := 16) (N := some 61) (v := ?_) (a' := ?_) #[true, true, false, true, false, false, false, true, false, false, false, false, true, false, false, false, true, false, false, false, false, false, false, false, false, false, false, false, false, false, false, false, false, false, false, false, false, false, false, false, false, false] rfl rfl (any_of HT_.out qf) (fun _ _ _ h => h) (Or.inl ⟨by rfl, ?_⟩) ?_ ?_
 rotate_left
 ·intro w'
  go_simp
  with_reducible rfl
 rotate_left
 ·exact z18_1
 refine pure_ (i := 21) (N := some 66) (v := ?_) (a' := ?_) #[true, true, false, true, false, false, false, true, false, false, false, false, true, false, false, false, true, false, false, false, false, true, false, false, false, false, false, false, false, false, false, false, false, false, false, false, false, false, false, false, false, false] rfl rfl (any_of HT_.out qf) (fun _ _ _ h => h) (Or.inl ⟨by rfl, ?_⟩) ?_ ?_
 rotate_left
 ·intro w'
  go_simp
  with_reducible rfl
 rotate_left
 ·exact z18_1
 refine pure_ (i := 26) (N := some 71) (v := ?_) (a' := ?_) #[true, true, false, true, false, false, false, true, false, false, false, false, true, false, false, false, true, false, false, false, false, true, false, false, false, false, true, false, false, false, false, false, false, false, false, false, false, false, false, false, false, false] rfl rfl (any_of HT_.out qf) (fun _ _ _ h => h) (Or.inl ⟨by rfl, ?_⟩) ?_ ?_
 rotate_left
 ·intro w'
  go_simp
  with_reducible rfl
 rotate_left
 ·exact z18_1
 refine pure_ (i := 31) (N := some 76) (v := ?_) (a' := ?_) #[true, true, false, true, false, false, false, true, false, false, false, false, true, false, false, false, true, false, false, false, false, true, false, false, false, false, true, false, false, false, false, true, false, false, false, false, false, false, false, false, false, false] rfl rfl (any_of HT_.out qf) (fun _ _ _ h => h) (Or.inl ⟨by rfl, ?_⟩) ?_ ?_
 rotate_left
 ·intro w'
  go_simp
  with_reducible rfl
 rotate_left
 ·exact z18_1
 refine pure_ (i := 36) (N := some 81) (v := ?_) (a' := ?_) #[true, true, false, true, false, false, false, true, false, false, false, false, true, false, false, false, true, false, false, false, false, true, false, false, false, false, true, false, false, false, false, true, false, false, false, false, true, false, false, false, false, false] rfl rfl (any_of HT_.out qf) (fun _ _ _ h => h) (Or.inl ⟨by rfl, ?_⟩) ?_ ?_
 rotate_left
 ·intro w'
  go_simp
  with_reducible rfl
 rotate_left
 ·exact z18_1
 refine take_ (i := 4) (N := some 49) (v := ?_) (a' := ?_) #[true, true, false, true, true, false, false, true, false, false, false, false, true, false, false, false, true, false, false, false, false, true, false, false, false, false, true, false, false, false, false, true, false, false, false, false, true, false, false, false, false, false] rfl rfl (take_ofW HT_.out HW_.out qf) (fun _ _ _ h => h) (Or.inl ⟨by rfl, ?_⟩) hHeld ?_ ?_
 rotate_left
 ·exact z18_2
 rotate_left
 ·exact z18_1
 refine take_ (i := 8) (N := some 53) (v := ?_) (a' := ?_) #[true, true, false, true, true, false, false, true, true, false, false, false, true, false, false, false, true, false, false, false, false, true, false, false, false, false, true, false, false, false, false, true, false, false, false, false, true, false, false, false, false, false] rfl rfl (take_ofW HT_.out HW_.out qf) (fun _ _ _ h => h) (Or.inl ⟨by rfl, ?_⟩) hHeld ?_ ?_
 rotate_left
 ·exact z18_2
 rotate_left
 ·exact z18_1
 refine pure_ (i := 9) (N := some 54) (v := ?_) (a' := ?_) #[true, true, false, true, true, false, false, true, true, true, false, false, true, false, false, false, true, false, false, false, false, true, false, false, false, false, true, false, false, false, false, true, false, false, false, false, true, false, false, false, false, false] rfl rfl (any_of HT_.out qf) (fun _ _ _ h => h) (Or.inl ⟨by rfl, ?_⟩) ?_ ?_
 rotate_left
 ·intro w'
  go_simp
  with_reducible rfl
 rotate_left
 ·exact z18_1
 refine take_ (i := 13) (N := some 58) (v := ?_) (a' := ?_) #[true, true, false, true, true, false, false, true, true, true, false, false, true, true, false, false, true, false, false, false, false, true, false, false, false, false, true, false, false, false, false, true, false, false, false, false, true, false, false, false, false, false] rfl rfl (take_ofW HT_.out HW_.out qf) (fun _ _ _ h => h) (Or.inl ⟨by rfl, ?_⟩) hHeld ?_ ?_
 rotate_left
 ·exact z18_2
 rotate_left
 ·exact z18_1
 refine take_ (i := 17) (N := some 62) (v := ?_) (a' := ?_) #[true, true, false, true, true, false, false, true, true, true, false, false, true, true, false, false, true, true, false, false, false, true, false, false, false, false, true, false, false, false, false, true, false, false, false, false, true, false, false, false, false, false] rfl rfl (take_ofW HT_.out HW_.out qf) (fun _ _ _ h => h) (Or.inl ⟨by rfl, ?_⟩) hHeld ?_ ?_
 rotate_left
 ·exact z18_2
 rotate_left
 ·exact z18_1
 refine pure_ (i := 18) (N := some 63) (v := ?_) (a' := ?_) #[true, true, false, true, true, false, false, true, true, true, false, false, true, true, false, false, true, true, true, false, false, true, false, false, false, false, true, false, false, false, false, true, false, false, false, false, true, false, false, false, false, false] rfl rfl (any_of HT_.out qf) (fun _ _ _ h => h) (Or.inl ⟨by rfl, ?_⟩) ?_ ?_
 rotate_left
 ·intro w'
  go_simp
  with_reducible rfl
 rotate_left
 ·exact z18_1
 refine take_ (i := 22) (N := some 67) (v := ?_) (a' := ?_) #[true, true, false, true, true, false, false, true, true, true, false, false, true, true, false, false, true, true, true, false, false, true, true, false, false, false, true, false, false, false, false, true, false, false, false, false, true, false, false, false, false, false] rfl rfl (take_ofW HT_.out HW_.out qf) (fun _ _ _ h => h) (Or.inl ⟨by rfl, ?_⟩) hHeld ?_ ?_
 rotate_left
 ·exact z18_2
 rotate_left
 ·exact z18_1
 refine pure_ (i := 23) (N := some 68) (v := ?_) (a' := ?_) #[true, true, false, true, true, false, false, true, true, true, false, false, true, true, false, false, true, true, true, false, false, true, true, true, false, false, true, false, false, false, false, true, false, false, false, false, true, false, false, false, false, false] rfl rfl (any_of HT_.out qf) (fun _ _ _ h => h) (Or.inl ⟨by rfl, ?_⟩) ?_ ?_
 rotate_left
 ·intro w'
  go_simp
  with_reducible rfl
 rotate_left
 ·exact z18_1
 refine take_ (i := 27) (N := some 72) (v := ?_) (a' := ?_) #[true, true, false, true, true, false, false, true, true, true, false, false, true, true, false, false, true, true, true, false, false, true, true, true, false, false, true, true, false, false, false, true, false, false, false, false, true, false, false, false, false, false] rfl rfl (take_ofW HT_.out HW_.out qf) (fun _ _ _ h => h) (Or.inl ⟨by rfl, ?_⟩) hHeld ?_ ?_
 rotate_left
 ·exact z18_2
 rotate_left
 ·exact z18_1
 refine pure_ (i := 28) (N := some 73) (v := ?_) (a' := ?_) #[true, true, false, true, true, false, false, true, true, true, false, false, true, true, false, false, true, true, true, false, false, true, true, true, false, false, true, true, true, false, false, true, false, false, false, false, true, false, false, false, false, false] rfl rfl (any_of HT_.out qf) (fun _ _ _ h => h) (Or.inl ⟨by rfl, ?_⟩) ?_ ?_
 rotate_left
 ·intro w'
  go_simp
  with_reducible rfl
 rotate_left
 ·exact z18_1
 refine take_ (i := 32) (N := some 77) (v := ?_) (a' := ?_) #[true, true, false, true, true, false, false, true, true, true, false, false, true, true, false, false, true, true, true, false, false, true, true, true, false, false, true, true, true, false, false, true, true, false, false, false, true, false, false, false, false, false] rfl rfl (take_ofW HT_.out HW_.out qf) (fun _ _ _ h => h) (Or.inl ⟨by rfl, ?_⟩) hHeld ?_ ?_
 rotate_left
 ·exact z18_2
 rotate_left
 ·exact z18_1
 refine pure_ (i := 33) (N := some 78) (v := ?_) (a' := ?_) #[true, true, false, true, true, false, false, true, true, true, false, false, true, true, false, false, true, true, true, false, false, true, true, true, false, false, true, true, true, false, false, true, true, true, false, false, true, false, false, false, false, false] rfl rfl (any_of HT_.out qf) (fun _ _ _ h => h) (Or.inl ⟨by rfl, ?_⟩) ?_ ?_
 rotate_left
 ·intro w'
  go_simp
  with_reducible rfl
 rotate_left
 ·exact z18_1
 refine take_ (i := 37) (N := some 82) (v := ?_) (a' := ?_) #[true, true, false, true, true, false, false, true, true, true, false, false, true, true, false, false, true, true, true, false, false, true, true, true, false, false, true, true, true, false, false, true, true, true, false, false, true, true, false, false, false, false] rfl rfl (take_ofW HT_.out HW_.out qf) (fun _ _ _ h => h) (Or.inl ⟨by rfl, ?_⟩) hHeld ?_ ?_
 rotate_left
 ·exact z18_2
 rotate_left
 ·exact z18_1
 refine pure_ (i := 38) (N := some 83) (v := ?_) (a' := ?_) #[true, true, false, true, true, false, false, true, true, true, false, false, true, true, false, false, true, true, true, false, false, true, true, true, false, false, true, true, true, false, false, true, true, true, false, false, true, true, true, false, false, false] rfl rfl (any_of HT_.out qf) (fun _ _ _ h => h) (Or.inl ⟨by rfl, ?_⟩) ?_ ?_
 rotate_left
 ·intro w'
  go_simp
  with_reducible rfl
 rotate_left
 ·exact z18_1
 refine one_ (i := 2) (N := some 47) #[true, true, true, true, true, false, false, true, true, true, false, false, true, true, false, false, true, true, true, false, false, true, true, true, false, false, true, true, true, false, false, true, true, true, false, false, true, true, true, false, false, false] rfl rfl (one_of HT_.out qf) qd (fun K hK => ?_)
 refine goes_ Tryd.func22 qf rfl #[.int .u64 (IntKind.u64.wrap (wrap64 ((wrap64 ((wrap64 ((wrap64 ((wrap64 ((wrap64 (t378 + t379)) + (wrap64 (4 * a0_7)))) + t380)) + t381)) + t382)) + t383))), .int .i64 1] qcx rfl rfl qbi ?_
 with_reducible refine (gangwayref01_Bytes.calls k (IntKind.u64.wrap (wrap64 ((wrap64 ((wrap64 ((wrap64 ((wrap64 ((wrap64 (t378 + t379)) + (wrap64 (4 * a0_7)))) + t380)) + t381)) + t382)) + t383))) 1 t384 _ A16.out).mono ?_
 rintro e wz23 ⟨rfl, hb⟩
 refine ⟨_, rfl, ?_⟩
 have nz2_ := Aside0.mk (blk_below (g := gbz0) (o := .cells #[.int .i64 a0_0, .bool a0_1, .bool a0_2, .bool a0_3, .bool a0_4, .bool a0_5, .bool a0_6, .int .i64 a0_7, .int .u64 a0_8, .int .i64 a0_9, .int .u64 a0_10, .int .i64 a0_11, .int .i64 a0_12, .int .i64 a0_13, .int .i64 a0_14, .int .i64 a0_15] 24 (0, 0)) q2 hb)
 have nz3_ := Aside0.mk (below_step qbj hb)
 clear BK376
 clear HB
 have BK376 := nz2_
 have HB := nz3_
 clear nz2_ nz3_
 (try clear hb)
 (try clear hb2)
 (try clear hk)
 (try clear hi)
 refine hK.out _ _ ⟨(blk_cell BK376.out 0).trans rfl, (blk_cell BK376.out 1).trans rfl, (blk_cell BK376.out 2).trans rfl, (blk_cell BK376.out 3).trans rfl, (blk_cell BK376.out 4).trans rfl, (blk_cell BK376.out 5).trans rfl, (blk_cell BK376.out 6).trans rfl, (blk_cell BK376.out 7).trans rfl, (blk_cell BK376.out 8).trans rfl, (blk_cell BK376.out 9).trans rfl, (blk_cell BK376.out 10).trans rfl, (blk_cell BK376.out 11).trans rfl, (blk_cell BK376.out 12).trans rfl, (blk_cell BK376.out 13).trans rfl, (blk_cell BK376.out 14).trans rfl, (blk_cell BK376.out 15).trans rfl⟩ (fun hHeld => ?_)
 clear hK K
 refine norm_ (a' := ?_) ?_ ?_
 rotate_left
 ·show Act.put _ (some 47) _ = _
  simp only [Act.put, List.setIfInBounds_toArray, List.set_cons_zero, List.set_cons_succ, i64_w, i32_w]
  rfl
 refine one_ (i := 5) (N := some 50) #[true, true, true, true, true, true, false, true, true, true, false, false, true, true, false, false, true, true, true, false, false, true, true, true, false, false, true, true, true, false, false, true, true, true, false, false, true, true, true, false, false, false] rfl rfl (one_of HT_.out qf) qd (fun K hK => ?_)
 refine goes_ Tryd.func22 qf rfl #[.int .u64 a0_8, .int .i64 8] qcx rfl rfl qbi ?_
 with_reducible refine (gangwayref01_Bytes.calls k a0_8 8 t385 _ A17.out).mono ?_
 rintro e wz24 ⟨rfl, hb⟩
 refine ⟨_, rfl, ?_⟩
 have nz2_ := Aside0.mk (blk_below (g := gbz0) (o := .cells #[.int .i64 a0_0, .bool a0_1, .bool a0_2, .bool a0_3, .bool a0_4, .bool a0_5, .bool a0_6, .int .i64 a0_7, .int .u64 a0_8, .int .i64 a0_9, .int .u64 a0_10, .int .i64 a0_11, .int .i64 a0_12, .int .i64 a0_13, .int .i64 a0_14, .int .i64 a0_15] 24 (0, 0)) q2 hb)
 have nz3_ := Aside0.mk (below_step qbj hb)
 clear BK376
 clear HB
 have BK376 := nz2_
 have HB := nz3_
 clear nz2_ nz3_
 (try clear hb)
 (try clear hb2)
 (try clear hk)
 (try clear hi)
 refine hK.out _ _ ⟨(blk_cell BK376.out 0).trans rfl, (blk_cell BK376.out 1).trans rfl, (blk_cell BK376.out 2).trans rfl, (blk_cell BK376.out 3).trans rfl, (blk_cell BK376.out 4).trans rfl, (blk_cell BK376.out 5).trans rfl, (blk_cell BK376.out 6).trans rfl, (blk_cell BK376.out 7).trans rfl, (blk_cell BK376.out 8).trans rfl, (blk_cell BK376.out 9).trans rfl, (blk_cell BK376.out 10).trans rfl, (blk_cell BK376.out 11).trans rfl, (blk_cell BK376.out 12).trans rfl, (blk_cell BK376.out 13).trans rfl, (blk_cell BK376.out 14).trans rfl, (blk_cell BK376.out 15).trans rfl⟩ (fun hHeld => ?_)
 clear hK K
 refine norm_ (a' := ?_) ?_ ?_
 rotate_left
 ·show Act.put _ (some 50) _ = _
  simp only [Act.put, List.setIfInBounds_toArray, List.set_cons_zero, List.set_cons_succ, i64_w, i32_w]
  rfl
 refine pure_ (i := 6) (N := some 51) (v := ?_) (a' := ?_) #[true, true, true, true, true, true, true, true, true, true, false, false, true, true, false, false, true, true, true, false, false, true, true, true, false, false, true, true, true, false, false, true, true, true, false, false, true, true, true, false, false, false] rfl rfl (any_of HT_.out qf) (fun _ _ _ h => h) (Or.inl ⟨by rfl, ?_⟩) ?_ ?_
 rotate_left
 ·intro w'
  go_simp
  with_reducible rfl
 rotate_left
 ·exact z18_1
 refine one_ (i := 10) (N := some 55) #[true, true, true, true, true, true, true, true, true, true, true, false, true, true, false, false, true, true, true, false, false, true, true, true, false, false, true, true, true, false, false, true, true, true, false, false, true, true, true, false, false, false] rfl rfl (one_of HT_.out qf) qd (fun K hK => ?_)
 refine goes_ Tryd.func22 qf rfl #[.int .u64 (IntKind.u64.wrap (a0_9)), .int .i64 4] qcx rfl rfl qbi ?_
 with_reducible refine (gangwayref01_Bytes.calls k (IntKind.u64.wrap (a0_9)) 4 t386 _ A19.out).mono ?_
 rintro e wz25 ⟨rfl, hb⟩
 refine ⟨_, rfl, ?_⟩
 have nz2_ := Aside0.mk (blk_below (g := gbz0) (o := .cells #[.int .i64 a0_0, .bool a0_1, .bool a0_2, .bool a0_3, .bool a0_4, .bool a0_5, .bool a0_6, .int .i64 a0_7, .int .u64 a0_8, .int .i64 a0_9, .int .u64 a0_10, .int .i64 a0_11, .int .i64 a0_12, .int .i64 a0_13, .int .i64 a0_14, .int .i64 a0_15] 24 (0, 0)) q2 hb)
 have nz3_ := Aside0.mk (below_step qbj hb)
 clear BK376
 clear HB
 have BK376 := nz2_
 have HB := nz3_
 clear nz2_ nz3_
 (try clear hb)
 (try clear hb2)
 (try clear hk)
 (try clear hi)
 refine hK.out _ _ ⟨(blk_cell BK376.out 0).trans rfl, (blk_cell BK376.out 1).trans rfl, (blk_cell BK376.out 2).trans rfl, (blk_cell BK376.out 3).trans rfl, (blk_cell BK376.out 4).trans rfl, (blk_cell BK376.out 5).trans rfl, (blk_cell BK376.out 6).trans rfl, (blk_cell BK376.out 7).trans rfl, (blk_cell BK376.out 8).trans rfl, (blk_cell BK376.out 9).trans rfl, (blk_cell BK376.out 10).trans rfl, (blk_cell BK376.out 11).trans rfl, (blk_cell BK376.out 12).trans rfl, (blk_cell BK376.out 13).trans rfl, (blk_cell BK376.out 14).trans rfl, (blk_cell BK376.out 15).trans rfl⟩ (fun hHeld => ?_)
 clear hK K
 refine norm_ (a' := ?_) ?_ ?_
 rotate_left
 ·show Act.put _ (some 55) _ = _
  simp only [Act.put, List.setIfInBounds_toArray, List.set_cons_zero, List.set_cons_succ, i64_w, i32_w]
  rfl
 refine pure_ (i := 11) (N := some 56) (v := ?_) (a' := ?_) #[true, true, true, true, true, true, true, true, true, true, true, true, true, true, false, false, true, true, true, false, false, true, true, true, false, false, true, true, true, false, false, true, true, true, false, false, true, true, true, false, false, false] rfl rfl (any_of HT_.out qf) (fun _ _ _ h => h) (Or.inl ⟨by rfl, ?_⟩) ?_ ?_
 rotate_left
 ·intro w'
  go_simp
  with_reducible rfl
 rotate_left
 ·exact z18_1
 refine one_ (i := 14) (N := some 59) #[true, true, true, true, true, true, true, true, true, true, true, true, true, true, true, false, true, true, true, false, false, true, true, true, false, false, true, true, true, false, false, true, true, true, false, false, true, true, true, false, false, false] rfl rfl (one_of HT_.out qf) qd (fun K hK => ?_)
 refine goes_ Tryd.func22 qf rfl #[.int .u64 a0_10, .int .i64 8] qcx rfl rfl qbi ?_
 with_reducible refine (gangwayref01_Bytes.calls k a0_10 8 t387 _ A21.out).mono ?_
 rintro e wz26 ⟨rfl, hb⟩
 refine ⟨_, rfl, ?_⟩
 have nz2_ := Aside0.mk (blk_below (g := gbz0) (o := .cells #[.int .i64 a0_0, .bool a0_1, .bool a0_2, .bool a0_3, .bool a0_4, .bool a0_5, .bool a0_6, .int .i64 a0_7, .int .u64 a0_8, .int .i64 a0_9, .int .u64 a0_10, .int .i64 a0_11, .int .i64 a0_12, .int .i64 a0_13, .int .i64 a0_14, .int .i64 a0_15] 24 (0, 0)) q2 hb)
 have nz3_ := Aside0.mk (below_step qbj hb)
 clear BK376
 clear HB
 have BK376 := nz2_
 have HB := nz3_
 clear nz2_ nz3_
 (try clear hb)
 (try clear hb2)
 (try clear hk)
 (try clear hi)
 refine hK.out _ _ ⟨(blk_cell BK376.out 0).trans rfl, (blk_cell BK376.out 1).trans rfl, (blk_cell BK376.out 2).trans rfl, (blk_cell BK376.out 3).trans rfl, (blk_cell BK376.out 4).trans rfl, (blk_cell BK376.out 5).trans rfl, (blk_cell BK376.out 6).trans rfl, (blk_cell BK376.out 7).trans rfl, (blk_cell BK376.out 8).trans rfl, (blk_cell BK376.out 9).trans rfl, (blk_cell BK376.out 10).trans rfl, (blk_cell BK376.out 11).trans rfl, (blk_cell BK376.out 12).trans rfl, (blk_cell BK376.out 13).trans rfl, (blk_cell BK376.out 14).trans rfl, (blk_cell BK376.out 15).trans rfl⟩ (fun hHeld => ?_)
 clear hK K
 refine norm_ (a' := ?_) ?_ ?_
 rotate_left
 ·show Act.put _ (some 59) _ = _
  simp only [Act.put, List.setIfInBounds_toArray, List.set_cons_zero, List.set_cons_succ, i64_w, i32_w]
  rfl
 refine pure_ (i := 15) (N := some 60) (v := ?_) (a' := ?_) #[true, true, true, true, true, true, true, true, true, true, true, true, true, true, true, true, true, true, true, false, false, true, true, true, false, false, true, true, true, false, false, true, true, true, false, false, true, true, true, false, false, false] rfl rfl (any_of HT_.out qf) (fun _ _ _ h => h) (Or.inl ⟨by rfl, ?_⟩) ?_ ?_
 rotate_left
 ·intro w'
  go_simp
  with_reducible rfl
 rotate_left
 ·exact z18_1
 refine one_ (i := 19) (N := some 64) #[true, true, true, true, true, true, true, true, true, true, true, true, true, true, true, true, true, true, true, true, false, true, true, true, false, false, true, true, true, false, false, true, true, true, false, false, true, true, true, false, false, false] rfl rfl (one_of HT_.out qf) qd (fun K hK => ?_)
 refine goes_ Tryd.func22 qf rfl #[.int .u64 (IntKind.u64.wrap (a0_11)), .int .i64 2] qcx rfl rfl qbi ?_
 with_reducible refine (gangwayref01_Bytes.calls k (IntKind.u64.wrap (a0_11)) 2 t388 _ A23.out).mono ?_
 rintro e wz27 ⟨rfl, hb⟩
 refine ⟨_, rfl, ?_⟩
 have nz2_ := Aside0.mk (blk_below (g := gbz0) (o := .cells #[.int .i64 a0_0, .bool a0_1, .bool a0_2, .bool a0_3, .bool a0_4, .bool a0_5, .bool a0_6, .int .i64 a0_7, .int .u64 a0_8, .int .i64 a0_9, .int .u64 a0_10, .int .i64 a0_11, .int .i64 a0_12, .int .i64 a0_13, .int .i64 a0_14, .int .i64 a0_15] 24 (0, 0)) q2 hb)
 have nz3_ := Aside0.mk (below_step qbj hb)
 clear BK376
 clear HB
 have BK376 := nz2_
 have HB := nz3_
 clear nz2_ nz3_
 (try clear hb)
 (try clear hb2)
 (try clear hk)
 (try clear hi)
 refine hK.out _ _ ⟨(blk_cell BK376.out 0).trans rfl, (blk_cell BK376.out 1).trans rfl, (blk_cell BK376.out 2).trans rfl, (blk_cell BK376.out 3).trans rfl, (blk_cell BK376.out 4).trans rfl, (blk_cell BK376.out 5).trans rfl, (blk_cell BK376.out 6).trans rfl, (blk_cell BK376.out 7).trans rfl, (blk_cell BK376.out 8).trans rfl, (blk_cell BK376.out 9).trans rfl, (blk_cell BK376.out 10).trans rfl, (blk_cell BK376.out 11).trans rfl, (blk_cell BK376.out 12).trans rfl, (blk_cell BK376.out 13).trans rfl, (blk_cell BK376.out 14).trans rfl, (blk_cell BK376.out 15).trans rfl⟩ (fun hHeld => ?_)
 clear hK K
 refine norm_ (a' := ?_) ?_ ?_
 rotate_left
 ·show Act.put _ (some 64) _ = _
  simp only [Act.put, List.setIfInBounds_toArray, List.set_cons_zero, List.set_cons_succ, i64_w, i32_w]
  rfl
 refine pure_ (i := 20) (N := some 65) (v := ?_) (a' := ?_) #[true, true, true, true, true, true, true, true, true, true, true, true, true, true, true, true, true, true, true, true, true, true, true, true, false, false, true, true, true, false, false, true, true, true, false, false, true, true, true, false, false, false] rfl rfl (any_of HT_.out qf) (fun _ _ _ h => h) (Or.inl ⟨by rfl, ?_⟩) ?_ ?_
 rotate_left
 ·intro w'
  go_simp
  with_reducible rfl
 rotate_left
 ·exact z18_1
 refine one_ (i := 24) (N := some 69) #[true, true, true, true, true, true, true, true, true, true, true, true, true, true, true, true, true, true, true, true, true, true, true, true, true, false, true, true, true, false, false, true, true, true, false, false, true, true, true, false, false, false] rfl rfl (one_of HT_.out qf) qd (fun K hK => ?_)
 refine goes_ Tryd.func22 qf rfl #[.int .u64 (IntKind.u64.wrap (a0_12)), .int .i64 2] qcx rfl rfl qbi ?_
 with_reducible refine (gangwayref01_Bytes.calls k (IntKind.u64.wrap (a0_12)) 2 t389 _ A25.out).mono ?_
 rintro e wz28 ⟨rfl, hb⟩
 refine ⟨_, rfl, ?_⟩
 have nz2_ := Aside0.mk (blk_below (g := gbz0) (o := .cells #[.int .i64 a0_0, .bool a0_1, .bool a0_2, .bool a0_3, .bool a0_4, .bool a0_5, .bool a0_6, .int .i64 a0_7, .int .u64 a0_8, .int .i64 a0_9, .int .u64 a0_10, .int .i64 a0_11, .int .i64 a0_12, .int .i64 a0_13, .int .i64 a0_14, .int .i64 a0_15] 24 (0, 0)) q2 hb)
 have nz3_ := Aside0.mk (below_step qbj hb)
 clear BK376
 clear HB
 have BK376 := nz2_
 have HB := nz3_
 clear nz2_ nz3_
 (try clear hb)
 (try clear hb2)
 (try clear hk)
 (try clear hi)
 refine hK.out _ _ ⟨(blk_cell BK376.out 0).trans rfl, (blk_cell BK376.out 1).trans rfl, (blk_cell BK376.out 2).trans rfl, (blk_cell BK376.out 3).trans rfl, (blk_cell BK376.out 4).trans rfl, (blk_cell BK376.out 5).trans rfl, (blk_cell BK376.out 6).trans rfl, (blk_cell BK376.out 7).trans rfl, (blk_cell BK376.out 8).trans rfl, (blk_cell BK376.out 9).trans rfl, (blk_cell BK376.out 10).trans rfl, (blk_cell BK376.out 11).trans rfl, (blk_cell BK376.out 12).trans rfl, (blk_cell BK376.out 13).trans rfl, (blk_cell BK376.out 14).trans rfl, (blk_cell BK376.out 15).trans rfl⟩ (fun hHeld => ?_)
 clear hK K
 refine norm_ (a' := ?_) ?_ ?_
 rotate_left
 ·show Act.put _ (some 69) _ = _
  simp only [Act.put, List.setIfInBounds_toArray, List.set_cons_zero, List.set_cons_succ, i64_w, i32_w]
  rfl
 refine pure_ (i := 25) (N := some 70) (v := ?_) (a' := ?_) #[true, true, true, true, true, true, true, true, true, true, true, true, true, true, true, true, true, true, true, true, true, true, true, true, true, true, true, true, true, false, false, true, true, true, false, false, true, true, true, false, false, false] rfl rfl (any_of HT_.out qf) (fun _ _ _ h => h) (Or.inl ⟨by rfl, ?_⟩) ?_ ?_
 rotate_left
 ·intro w'
  go_simp
  with_reducible rfl
 rotate_left
 ·exact z18_1
 refine one_ (i := 29) (N := some 74) #[true, true, true, true, true, true, true, true, true, true, true, true, true, true, true, true, true, true, true, true, true, true, true, true, true, true, true, true, true, true, false, true, true, true, false, false, true, true, true, false, false, false] rfl rfl (one_of HT_.out qf) qd (fun K hK => ?_)
 refine goes_ Tryd.func22 qf rfl #[.int .u64 (IntKind.u64.wrap (a0_13)), .int .i64 2] qcx rfl rfl qbi ?_
 with_reducible refine (gangwayref01_Bytes.calls k (IntKind.u64.wrap (a0_13)) 2 t390 _ A27.out).mono ?_
 rintro e wz29 ⟨rfl, hb⟩
 refine ⟨_, rfl, ?_⟩
 have nz2_ := Aside0.mk (blk_below (g := gbz0) (o := .cells #[.int .i64 a0_0, .bool a0_1, .bool a0_2, .bool a0_3, .bool a0_4, .bool a0_5, .bool a0_6, .int .i64 a0_7, .int .u64 a0_8, .int .i64 a0_9, .int .u64 a0_10, .int .i64 a0_11, .int .i64 a0_12, .int .i64 a0_13, .int .i64 a0_14, .int .i64 a0_15] 24 (0, 0)) q2 hb)
 have nz3_ := Aside0.mk (below_step qbj hb)
 clear BK376
 clear HB
 have BK376 := nz2_
 have HB := nz3_
 clear nz2_ nz3_
 (try clear hb)
 (try clear hb2)
 (try clear hk)
 (try clear hi)
 refine hK.out _ _ ⟨(blk_cell BK376.out 0).trans rfl, (blk_cell BK376.out 1).trans rfl, (blk_cell BK376.out 2).trans rfl, (blk_cell BK376.out 3).trans rfl, (blk_cell BK376.out 4).trans rfl, (blk_cell BK376.out 5).trans rfl, (blk_cell BK376.out 6).trans rfl, (blk_cell BK376.out 7).trans rfl, (blk_cell BK376.out 8).trans rfl, (blk_cell BK376.out 9).trans rfl, (blk_cell BK376.out 10).trans rfl, (blk_cell BK376.out 11).trans rfl, (blk_cell BK376.out 12).trans rfl, (blk_cell BK376.out 13).trans rfl, (blk_cell BK376.out 14).trans rfl, (blk_cell BK376.out 15).trans rfl⟩ (fun hHeld => ?_)
 clear hK K
 refine norm_ (a' := ?_) ?_ ?_
 rotate_left
 ·show Act.put _ (some 74) _ = _
  simp only [Act.put, List.setIfInBounds_toArray, List.set_cons_zero, List.set_cons_succ, i64_w, i32_w]
  rfl
 refine pure_ (i := 30) (N := some 75) (v := ?_) (a' := ?_) #[true, true, true, true, true, true, true, true, true, true, true, true, true, true, true, true, true, true, true, true, true, true, true, true, true, true, true, true, true, true, true, true, true, true, false, false, true, true, true, false, false, false] rfl rfl (any_of HT_.out qf) (fun _ _ _ h => h) (Or.inl ⟨by rfl, ?_⟩) ?_ ?_
 rotate_left
 ·intro w'
  go_simp
  with_reducible rfl
 rotate_left
 ·exact z18_1
 refine one_ (i := 34) (N := some 79) #[true, true, true, true, true, true, true, true, true, true, true, true, true, true, true, true, true, true, true, true, true, true, true, true, true, true, true, true, true, true, true, true, true, true, true, false, true, true, true, false, false, false] rfl rfl (one_of HT_.out qf) qd (fun K hK => ?_)
 refine goes_ Tryd.func22 qf rfl #[.int .u64 (IntKind.u64.wrap (a0_14)), .int .i64 2] qcx rfl rfl qbi ?_
 with_reducible refine (gangwayref01_Bytes.calls k (IntKind.u64.wrap (a0_14)) 2 t391 _ A29.out).mono ?_
 rintro e wz30 ⟨rfl, hb⟩
 refine ⟨_, rfl, ?_⟩
 have nz2_ := Aside0.mk (blk_below (g := gbz0) (o := .cells #[.int .i64 a0_0, .bool a0_1, .bool a0_2, .bool a0_3, .bool a0_4, .bool a0_5, .bool a0_6, .int .i64 a0_7, .int .u64 a0_8, .int .i64 a0_9, .int .u64 a0_10, .int .i64 a0_11, .int .i64 a0_12, .int .i64 a0_13, .int .i64 a0_14, .int .i64 a0_15] 24 (0, 0)) q2 hb)
 have nz3_ := Aside0.mk (below_step qbj hb)
 clear BK376
 clear HB
 have BK376 := nz2_
 have HB := nz3_
 clear nz2_ nz3_
 (try clear hb)
 (try clear hb2)
 (try clear hk)
 (try clear hi)
 refine hK.out _ _ ⟨(blk_cell BK376.out 0).trans rfl, (blk_cell BK376.out 1).trans rfl, (blk_cell BK376.out 2).trans rfl, (blk_cell BK376.out 3).trans rfl, (blk_cell BK376.out 4).trans rfl, (blk_cell BK376.out 5).trans rfl, (blk_cell BK376.out 6).trans rfl, (blk_cell BK376.out 7).trans rfl, (blk_cell BK376.out 8).trans rfl, (blk_cell BK376.out 9).trans rfl, (blk_cell BK376.out 10).trans rfl, (blk_cell BK376.out 11).trans rfl, (blk_cell BK376.out 12).trans rfl, (blk_cell BK376.out 13).trans rfl, (blk_cell BK376.out 14).trans rfl, (blk_cell BK376.out 15).trans rfl⟩ (fun hHeld => ?_)
 clear hK K
 refine norm_ (a' := ?_) ?_ ?_
 rotate_left
 ·show Act.put _ (some 79) _ = _
  simp only [Act.put, List.setIfInBounds_toArray, List.set_cons_zero, List.set_cons_succ, i64_w, i32_w]
  rfl
 refine pure_ (i := 35) (N := some 80) (v := ?_) (a' := ?_) #[true, true, true, true, true, true, true, true, true, true, true, true, true, true, true, true, true, true, true, true, true, true, true, true, true, true, true, true, true, true, true, true, true, true, true, true, true, true, true, false, false, false] rfl rfl (any_of HT_.out qf) (fun _ _ _ h => h) (Or.inl ⟨by rfl, ?_⟩) ?_ ?_
 rotate_left
 ·intro w'
  go_simp
  with_reducible rfl
 rotate_left
 ·exact z18_1
 refine one_ (i := 39) (N := some 84) #[true, true, true, true, true, true, true, true, true, true, true, true, true, true, true, true, true, true, true, true, true, true, true, true, true, true, true, true, true, true, true, true, true, true, true, true, true, true, true, true, false, false] rfl rfl (one_of HT_.out qf) qd (fun K hK => ?_)
 refine goes_ Tryd.func22 qf rfl #[.int .u64 (IntKind.u64.wrap (a0_15)), .int .i64 2] qcx rfl rfl qbi ?_
 with_reducible refine (gangwayref01_Bytes.calls k (IntKind.u64.wrap (a0_15)) 2 t392 _ A31.out).mono ?_
 rintro e wz31 ⟨rfl, hb⟩
 refine ⟨_, rfl, ?_⟩
 have nz2_ := Aside0.mk (blk_below (g := gbz0) (o := .cells #[.int .i64 a0_0, .bool a0_1, .bool a0_2, .bool a0_3, .bool a0_4, .bool a0_5, .bool a0_6, .int .i64 a0_7, .int .u64 a0_8, .int .i64 a0_9, .int .u64 a0_10, .int .i64 a0_11, .int .i64 a0_12, .int .i64 a0_13, .int .i64 a0_14, .int .i64 a0_15] 24 (0, 0)) q2 hb)
 have nz3_ := Aside0.mk (below_step qbj hb)
 clear BK376
 clear HB
 have BK376 := nz2_
 have HB := nz3_
 clear nz2_ nz3_
 (try clear hb)
 (try clear hb2)
 (try clear hk)
 (try clear hi)
 refine hK.out _ _ ⟨(blk_cell BK376.out 0).trans rfl, (blk_cell BK376.out 1).trans rfl, (blk_cell BK376.out 2).trans rfl, (blk_cell BK376.out 3).trans rfl, (blk_cell BK376.out 4).trans rfl, (blk_cell BK376.out 5).trans rfl, (blk_cell BK376.out 6).trans rfl, (blk_cell BK376.out 7).trans rfl, (blk_cell BK376.out 8).trans rfl, (blk_cell BK376.out 9).trans rfl, (blk_cell BK376.out 10).trans rfl, (blk_cell BK376.out 11).trans rfl, (blk_cell BK376.out 12).trans rfl, (blk_cell BK376.out 13).trans rfl, (blk_cell BK376.out 14).trans rfl, (blk_cell BK376.out 15).trans rfl⟩ (fun hHeld => ?_)
 clear hK K
 refine norm_ (a' := ?_) ?_ ?_
 rotate_left
 ·show Act.put _ (some 84) _ = _
  simp only [Act.put, List.setIfInBounds_toArray, List.set_cons_zero, List.set_cons_succ, i64_w, i32_w]
  rfl
 refine pure_ (i := 40) (N := some 85) (v := ?_) (a' := ?_) #[true, true, true, true, true, true, true, true, true, true, true, true, true, true, true, true, true, true, true, true, true, true, true, true, true, true, true, true, true, true, true, true, true, true, true, true, true, true, true, true, true, false] rfl rfl (any_of HT_.out qf) (fun _ _ _ h => h) (Or.inl ⟨by rfl, ?_⟩) ?_ ?_
 rotate_left
 ·intro w'
  go_simp
  with_reducible rfl
 rotate_left
 ·exact z18_1
 refine pure_ (i := 41) (N := some 7) (v := ?_) (a' := ?_) #[true, true, true, true, true, true, true, true, true, true, true, true, true, true, true, true, true, true, true, true, true, true, true, true, true, true, true, true, true, true, true, true, true, true, true, true, true, true, true, true, true, true] rfl rfl (any_of HT_.out qf) (fun _ _ _ h => h) (Or.inl ⟨by rfl, ?_⟩) ?_ ?_
 rotate_left
 ·intro w'
  go_simp
  with_reducible rfl
 rotate_left
 ·exact z18_1
 refine done_ (done_of HT_.out qf) ?_
 obtain ⟨hczz32_0, hczz32_1, hczz32_2, hczz32_3, hczz32_4, hczz32_5, hczz32_6, hczz32_7, hczz32_8, hczz32_9, hczz32_10, hczz32_11, hczz32_12, hczz32_13, hczz32_14, hczz32_15⟩ := cells16 BK376.out
 obtain ⟨hfzz32_0, hfzz32_1, hfzz32_2, hfzz32_3, hfzz32_4, hfzz32_5, hfzz32_6, hfzz32_7, hfzz32_8, hfzz32_9, hfzz32_10, hfzz32_11, hfzz32_12, hfzz32_13, hfzz32_14, hfzz32_15⟩ := frozen16 BK376.out
 try go_wp2_with (first | ((with_reducible refine gate_st (ty := 24) rfl ?_); refine storeC16 rfl rfl rfl rfl rfl qbz qo qf rfl ?_) | ((with_reducible refine gate_ld (ty := 24) rfl ?_); (try (with_reducible refine gate_gd rfl ?_; refine gate_guard qc8 ?_; dsimp only)); refine load_st rfl rfl rfl qbz qo Tryd.underlying24 rfl qf ?_; (try simp only [Act.put, List.setIfInBounds_toArray, List.set_cons_zero, List.set_cons_succ])) | go_in)
 go_ret2
 exact ⟨by first | rfl | (simp [errW_none, errW_some] <;> rfl) | (simp [*, errW_none, errW_some] <;> rfl) | (simp [*, IntKind.wrap_u32]; done) | (simp_all [IntKind.wrap_u32]; done), by repeat (first | (with_reducible first | exact HB.out | apply below_alloc | apply pw_below_drewN | apply below_drew1 | refine below_set ?_ GEz0.out) | exact HB.out)⟩) : p := h
set_option maxHeartbeats 8000000 in
set_option maxRecDepth 100000 in
theorem gangwayref09_Build.calls (k : Nat) (a0_0 : Int) (a0_1 : Bool) (a0_2 : Bool) (a0_3 : Bool) (a0_4 : Bool) (a0_5 : Bool) (a0_6 : Bool) (a0_7 : Int) (a0_8 : Int) (a0_9 : Int) (a0_10 : Int) (a0_11 : Int) (a0_12 : Int) (a0_13 : Int) (a0_14 : Int) (a0_15 : Int) (r1 : ByteArray) (r2 : Int) (w : World) (h : gangwayref09_Build.f k a0_0 a0_1 a0_2 a0_3 a0_4 a0_5 a0_6 a0_7 a0_8 a0_9 a0_10 a0_11 a0_12 a0_13 a0_14 a0_15 = some (r1, r2)) :
  Calls Tryd.prog 9 #[.agg #[.int .i64 a0_0, .bool a0_1, .bool a0_2, .bool a0_3, .bool a0_4, .bool a0_5, .bool a0_6, .int .i64 a0_7, .int .u64 a0_8, .int .i64 a0_9, .int .u64 a0_10, .int .i64 a0_11, .int .i64 a0_12, .int .i64 a0_13, .int .i64 a0_14, .int .i64 a0_15]] w fun e w' => e = .returned (.tuple #[.string r1, .int .i64 r2]) ∧ Below w.heap.size w w' := by
 have hu24 := Tryd.underlying24
 have HB := Aside0.mk (Below.refl w.heap.size w)
 have H : ((gangwayref09_Check.f k a0_0 a0_1 a0_2 a0_3 a0_4 a0_5 a0_6 a0_7 a0_8 a0_9 a0_10 a0_11 a0_12 a0_13 a0_14 a0_15).bind fun t377 => (if t377 = 0 then (if a0_0 = 128 then (if 5 + 2 ≤ 9223372036854775807 then (some ((⟨#[66, 66, 3, 0, 0]⟩ : ByteArray) ++ (⟨#[0, 128]⟩ : ByteArray), 0)) else (none)) else ((gangwayref09_bit.f a0_1 1).bind fun t378 => ((gangwayref09_bit.f a0_2 2).bind fun t379 => ((gangwayref09_bit.f a0_3 16).bind fun t380 => ((gangwayref09_bit.f a0_4 32).bind fun t381 => ((gangwayref09_bit.f a0_5 64).bind fun t382 => ((gangwayref09_bit.f a0_6 128).bind fun t383 => ((gangwayref01_Bytes.f k (IntKind.u64.wrap (wrap64 ((wrap64 ((wrap64 ((wrap64 ((wrap64 ((wrap64 (t378 + t379)) + (wrap64 (4 * a0_7)))) + t380)) + t381)) + t382)) + t383))) 1).bind fun t384 => ((gangwayref01_Bytes.f k a0_8 8).bind fun t385 => (if t384.size + t385.size ≤ 9223372036854775807 then ((gangwayref01_Bytes.f k (IntKind.u64.wrap (a0_9)) 4).bind fun t386 => (if (t384 ++ t385).size + t386.size ≤ 9223372036854775807 then ((gangwayref01_Bytes.f k a0_10 8).bind fun t387 => (if ((t384 ++ t385) ++ t386).size + t387.size ≤ 9223372036854775807 then ((gangwayref01_Bytes.f k (IntKind.u64.wrap (a0_11)) 2).bind fun t388 => (if (((t384 ++ t385) ++ t386) ++ t387).size + t388.size ≤ 9223372036854775807 then ((gangwayref01_Bytes.f k (IntKind.u64.wrap (a0_12)) 2).bind fun t389 => (if ((((t384 ++ t385) ++ t386) ++ t387) ++ t388).size + t389.size ≤ 9223372036854775807 then ((gangwayref01_Bytes.f k (IntKind.u64.wrap (a0_13)) 2).bind fun t390 => (if (((((t384 ++ t385) ++ t386) ++ t387) ++ t388) ++ t389).size + t390.size ≤ 9223372036854775807 then ((gangwayref01_Bytes.f k (IntKind.u64.wrap (a0_14)) 2).bind fun t391 => (if ((((((t384 ++ t385) ++ t386) ++ t387) ++ t388) ++ t389) ++ t390).size + t391.size ≤ 9223372036854775807 then ((gangwayref01_Bytes.f k (IntKind.u64.wrap (a0_15)) 2).bind fun t392 => (if (((((((t384 ++ t385) ++ t386) ++ t387) ++ t388) ++ t389) ++ t390) ++ t391).size + t392.size ≤ 9223372036854775807 then (if a0_0 = 2 then (if 5 + 2 ≤ 9223372036854775807 then (if 7 + ((((((((t384 ++ t385) ++ t386) ++ t387) ++ t388) ++ t389) ++ t390) ++ t391) ++ t392).size ≤ 9223372036854775807 then (if (((⟨#[66, 66, 3, 0, 0]⟩ : ByteArray) ++ (⟨#[2, 2]⟩ : ByteArray)) ++ ((((((((t384 ++ t385) ++ t386) ++ t387) ++ t388) ++ t389) ++ t390) ++ t391) ++ t392)).size + 1 ≤ 9223372036854775807 then (some ((((⟨#[66, 66, 3, 0, 0]⟩ : ByteArray) ++ (⟨#[2, 2]⟩ : ByteArray)) ++ ((((((((t384 ++ t385) ++ t386) ++ t387) ++ t388) ++ t389) ++ t390) ++ t391) ++ t392)) ++ (⟨#[0]⟩ : ByteArray), 0)) else (none)) else (none)) else (none)) else (if 5 + 2 ≤ 9223372036854775807 then (if 7 + ((((((((t384 ++ t385) ++ t386) ++ t387) ++ t388) ++ t389) ++ t390) ++ t391) ++ t392).size ≤ 9223372036854775807 then (some (((⟨#[66, 66, 3, 0, 0]⟩ : ByteArray) ++ (⟨#[0, 0]⟩ : ByteArray)) ++ ((((((((t384 ++ t385) ++ t386) ++ t387) ++ t388) ++ t389) ++ t390) ++ t391) ++ t392), 0)) else (none)) else (none))) else (none))) else (none))) else (none))) else (none))) else (none))) else (none))) else (none))) else (none))))))))))) else (some ((⟨#[]⟩ : ByteArray), t377)))) = some (r1, r2) := h
 clear h
 replace H := Option.bind_eq_some_iff.mp H
 obtain ⟨t377, A20, H⟩ := H
 try dsimp only at H
 have A2 := Aside0.mk A20
 clear A20
 by_cases c3 : t377 = 0
 ·rw [if_pos c3] at H
  have c3b0 : (t377 == 0) = true := beq_iff_eq.mpr c3
  have c3b1 : (t377 != 0) = false := bne_eq_false_iff_eq.mpr c3
  clear c3
  by_cases c4 : a0_0 = 128
  ·rw [if_pos c4] at H
   have c4b0 : (a0_0 == 128) = true := beq_iff_eq.mpr c4
   have c4b1 : (a0_0 != 128) = false := bne_eq_false_iff_eq.mpr c4
   clear c4
   by_cases c5 : 5 + 2 ≤ 9223372036854775807
   ·rw [if_pos c5] at H
    have c5b0 := eq_true c5
    have c5b1 : decide (5 + 2 ≤ 9223372036854775807) = true := decide_eq_true c5
    try have c5b2 : (9223372036854775807 < 5 + 2) = False := eq_false (Nat.not_lt.2 c5)
    simp only [Option.some.injEq, Prod.mk.injEq] at H
    obtain ⟨rfl, rfl⟩ := H
    go_enter Tryd.func9, Tryd.ntmps9
    go_wp2_with (first | ((with_reducible refine gate_st (ty := 24) rfl ?_); refine storeC16 rfl rfl rfl rfl rfl qbz qo qf rfl ?_) | ((with_reducible refine gate_ld (ty := 24) rfl ?_); (try (with_reducible refine gate_gd rfl ?_; refine gate_guard qc8 ?_; dsimp only)); refine load_st rfl rfl rfl qbz qo Tryd.underlying24 rfl qf ?_; (try simp only [Act.put, List.setIfInBounds_toArray, List.set_cons_zero, List.set_cons_succ])) | ((with_reducible refine gate_dst (N := 1) rfl ?_); refine box_event ?hg (N := 1) ?hd (cs := #[.int .i64 a0_0, .bool a0_1, .bool a0_2, .bool a0_3, .bool a0_4, .bool a0_5, .bool a0_6, .int .i64 a0_7, .int .u64 a0_8, .int .i64 a0_9, .int .u64 a0_10, .int .i64 a0_11, .int .i64 a0_12, .int .i64 a0_13, .int .i64 a0_14, .int .i64 a0_15]) (t := 24) ?hr ?_; (case hd => rfl); (case hg => rfl); (case hr => first | (go_simp; done) | (go_simp; rfl)); intro gb376 hg w6 hbox hb; have n0_ := Aside0.mk (below_step qbh hb); have n1_ := Aside0.mk (hbox); have n2_ := Aside0.mk ((qcq : w.heap.size ≤ gb376)); have n3_ := Aside0.mk ((qcq : w.heap.size ≤ gb376)); clear HB; have HB := n0_; have BK376 := n1_; have GW376 := n2_; have GE376 := n3_; clear n0_ n1_ n2_ n3_; clear hb hbox hg; obtain ⟨hcz7_0, hcz7_1, hcz7_2, hcz7_3, hcz7_4, hcz7_5, hcz7_6, hcz7_7, hcz7_8, hcz7_9, hcz7_10, hcz7_11, hcz7_12, hcz7_13, hcz7_14, hcz7_15⟩ := cells16 BK376.out; obtain ⟨hfz7_0, hfz7_1, hfz7_2, hfz7_3, hfz7_4, hfz7_5, hfz7_6, hfz7_7, hfz7_8, hfz7_9, hfz7_10, hfz7_11, hfz7_12, hfz7_13, hfz7_14, hfz7_15⟩ := frozen16 BK376.out) | ((with_reducible refine gate_callee (f := 12) rfl ?_); refine goesL_ (some 9) rfl rfl Tryd.func12 qf rfl #[.agg #[.int .i64 a0_0, .bool a0_1, .bool a0_2, .bool a0_3, .bool a0_4, .bool a0_5, .bool a0_6, .int .i64 a0_7, .int .u64 a0_8, .int .i64 a0_9, .int .u64 a0_10, .int .i64 a0_11, .int .i64 a0_12, .int .i64 a0_13, .int .i64 a0_14, .int .i64 a0_15]] rfl qbi ?_; (with_reducible refine (gangwayref09_Check.calls k a0_0 a0_1 a0_2 a0_3 a0_4 a0_5 a0_6 a0_7 a0_8 a0_9 a0_10 a0_11 a0_12 a0_13 a0_14 a0_15 t377 _ A2.out).mono ?_); rintro e w8 ⟨rfl, hb⟩; refine ⟨_, rfl, ?_⟩; have n0_ := Aside0.mk (blk_below (g := gb376) q2 hb); have n1_ := Aside0.mk (below_step qbv hb); clear BK376; clear HB; have BK376 := n0_; have HB := n1_; clear n0_ n1_; (try clear hb); (try clear hb2); (try clear hk); (try clear hi); obtain ⟨hcz9_0, hcz9_1, hcz9_2, hcz9_3, hcz9_4, hcz9_5, hcz9_6, hcz9_7, hcz9_8, hcz9_9, hcz9_10, hcz9_11, hcz9_12, hcz9_13, hcz9_14, hcz9_15⟩ := cells16 BK376.out; obtain ⟨hfz9_0, hfz9_1, hfz9_2, hfz9_3, hfz9_4, hfz9_5, hfz9_6, hfz9_7, hfz9_8, hfz9_9, hfz9_10, hfz9_11, hfz9_12, hfz9_13, hfz9_14, hfz9_15⟩ := frozen16 BK376.out))
    go_ret2
    exact ⟨by first | rfl | (simp [errW_none, errW_some] <;> rfl) | (simp [*, errW_none, errW_some] <;> rfl) | (simp [*, IntKind.wrap_u32]; done) | (simp_all [IntKind.wrap_u32]; done), by repeat (first | (with_reducible first | exact HB.out | apply below_alloc | apply pw_below_drewN | apply below_drew1 | refine below_set ?_ GE376.out) | exact HB.out)⟩
   ·rw [if_neg c5] at H
    exact absurd H qb
  ·rw [if_neg c4] at H
   have c4b0 : (a0_0 == 128) = false := beq_eq_false_iff_ne.mpr c4
   have c4b1 : (a0_0 != 128) = true := bne_iff_ne.mpr c4
   replace H := Option.bind_eq_some_iff.mp H
   obtain ⟨t378, A100, H⟩ := H
   try dsimp only at H
   have A10 := Aside0.mk A100
   clear A100
   replace H := Option.bind_eq_some_iff.mp H
   obtain ⟨t379, A110, H⟩ := H
   try dsimp only at H
   have A11 := Aside0.mk A110
   clear A110
   replace H := Option.bind_eq_some_iff.mp H
   obtain ⟨t380, A120, H⟩ := H
   try dsimp only at H
   have A12 := Aside0.mk A120
   clear A120
   replace H := Option.bind_eq_some_iff.mp H
   obtain ⟨t381, A130, H⟩ := H
   try dsimp only at H
   have A13 := Aside0.mk A130
   clear A130
   replace H := Option.bind_eq_some_iff.mp H
   obtain ⟨t382, A140, H⟩ := H
   try dsimp only at H
   have A14 := Aside0.mk A140
   clear A140
   replace H := Option.bind_eq_some_iff.mp H
   obtain ⟨t383, A150, H⟩ := H
   try dsimp only at H
   have A15 := Aside0.mk A150
   clear A150
   replace H := Option.bind_eq_some_iff.mp H
   obtain ⟨t384, A160, H⟩ := H
   try dsimp only at H
   have A16 := Aside0.mk A160
   clear A160
   replace H := Option.bind_eq_some_iff.mp H
   obtain ⟨t385, A170, H⟩ := H
   try dsimp only at H
   have A17 := Aside0.mk A170
   clear A170
   by_cases c18 : t384.size + t385.size ≤ 9223372036854775807
   ·rw [if_pos c18] at H
    have c18b0 := eq_true c18
    have c18b1 : decide (t384.size + t385.size ≤ 9223372036854775807) = true := decide_eq_true c18
    try have c18b2 : (9223372036854775807 < t384.size + t385.size) = False := eq_false (Nat.not_lt.2 c18)
    replace H := Option.bind_eq_some_iff.mp H
    obtain ⟨t386, A190, H⟩ := H
    try dsimp only at H
    have A19 := Aside0.mk A190
    clear A190
    by_cases c20 : (t384 ++ t385).size + t386.size ≤ 9223372036854775807
    ·rw [if_pos c20] at H
     have c20b0 := eq_true c20
     have c20b1 : decide ((t384 ++ t385).size + t386.size ≤ 9223372036854775807) = true := decide_eq_true c20
     have c20z := c20
     simp only [ByteArray.size_append] at c20z
     have c20z1 := eq_true c20z
     have c20z2 := eq_false (Nat.not_lt.2 c20z)
     try (have c20l := c20z; simp only [show (⟨#[0]⟩ : ByteArray).size = 1 from rfl, show (⟨#[2, 2]⟩ : ByteArray).size = 2 from rfl, show (⟨#[0, 0]⟩ : ByteArray).size = 2 from rfl, show (⟨#[0, 128]⟩ : ByteArray).size = 2 from rfl, show (⟨#[66, 66, 3, 0, 0]⟩ : ByteArray).size = 5 from rfl, Nat.reduceAdd] at c20l; have c20l1 := eq_true c20l; have c20l2 := eq_false (Nat.not_lt.2 c20l))
     try have c20b2 : (9223372036854775807 < (t384 ++ t385).size + t386.size) = False := eq_false (Nat.not_lt.2 c20)
     replace H := Option.bind_eq_some_iff.mp H
     obtain ⟨t387, A210, H⟩ := H
     try dsimp only at H
     have A21 := Aside0.mk A210
     clear A210
     by_cases c22 : ((t384 ++ t385) ++ t386).size + t387.size ≤ 9223372036854775807
     ·rw [if_pos c22] at H
      have c22b0 := eq_true c22
      have c22b1 : decide (((t384 ++ t385) ++ t386).size + t387.size ≤ 9223372036854775807) = true := decide_eq_true c22
      have c22z := c22
      simp only [ByteArray.size_append] at c22z
      have c22z1 := eq_true c22z
      have c22z2 := eq_false (Nat.not_lt.2 c22z)
      try (have c22l := c22z; simp only [show (⟨#[0]⟩ : ByteArray).size = 1 from rfl, show (⟨#[2, 2]⟩ : ByteArray).size = 2 from rfl, show (⟨#[0, 0]⟩ : ByteArray).size = 2 from rfl, show (⟨#[0, 128]⟩ : ByteArray).size = 2 from rfl, show (⟨#[66, 66, 3, 0, 0]⟩ : ByteArray).size = 5 from rfl, Nat.reduceAdd] at c22l; have c22l1 := eq_true c22l; have c22l2 := eq_false (Nat.not_lt.2 c22l))
      try have c22b2 : (9223372036854775807 < ((t384 ++ t385) ++ t386).size + t387.size) = False := eq_false (Nat.not_lt.2 c22)
      replace H := Option.bind_eq_some_iff.mp H
      obtain ⟨t388, A230, H⟩ := H
      try dsimp only at H
      have A23 := Aside0.mk A230
      clear A230
      by_cases c24 : (((t384 ++ t385) ++ t386) ++ t387).size + t388.size ≤ 9223372036854775807
      ·rw [if_pos c24] at H
       have c24b0 := eq_true c24
       have c24b1 : decide ((((t384 ++ t385) ++ t386) ++ t387).size + t388.size ≤ 9223372036854775807) = true := decide_eq_true c24
       have c24z := c24
       simp only [ByteArray.size_append] at c24z
       have c24z1 := eq_true c24z
       have c24z2 := eq_false (Nat.not_lt.2 c24z)
       try (have c24l := c24z; simp only [show (⟨#[0]⟩ : ByteArray).size = 1 from rfl, show (⟨#[2, 2]⟩ : ByteArray).size = 2 from rfl, show (⟨#[0, 0]⟩ : ByteArray).size = 2 from rfl, show (⟨#[0, 128]⟩ : ByteArray).size = 2 from rfl, show (⟨#[66, 66, 3, 0, 0]⟩ : ByteArray).size = 5 from rfl, Nat.reduceAdd] at c24l; have c24l1 := eq_true c24l; have c24l2 := eq_false (Nat.not_lt.2 c24l))
       try have c24b2 : (9223372036854775807 < (((t384 ++ t385) ++ t386) ++ t387).size + t388.size) = False := eq_false (Nat.not_lt.2 c24)
       replace H := Option.bind_eq_some_iff.mp H
       obtain ⟨t389, A250, H⟩ := H
       try dsimp only at H
       have A25 := Aside0.mk A250
       clear A250
       by_cases c26 : ((((t384 ++ t385) ++ t386) ++ t387) ++ t388).size + t389.size ≤ 9223372036854775807
       ·rw [if_pos c26] at H
        have c26b0 := eq_true c26
        have c26b1 : decide (((((t384 ++ t385) ++ t386) ++ t387) ++ t388).size + t389.size ≤ 9223372036854775807) = true := decide_eq_true c26
        have c26z := c26
        simp only [ByteArray.size_append] at c26z
        have c26z1 := eq_true c26z
        have c26z2 := eq_false (Nat.not_lt.2 c26z)
        try (have c26l := c26z; simp only [show (⟨#[0]⟩ : ByteArray).size = 1 from rfl, show (⟨#[2, 2]⟩ : ByteArray).size = 2 from rfl, show (⟨#[0, 0]⟩ : ByteArray).size = 2 from rfl, show (⟨#[0, 128]⟩ : ByteArray).size = 2 from rfl, show (⟨#[66, 66, 3, 0, 0]⟩ : ByteArray).size = 5 from rfl, Nat.reduceAdd] at c26l; have c26l1 := eq_true c26l; have c26l2 := eq_false (Nat.not_lt.2 c26l))
        try have c26b2 : (9223372036854775807 < ((((t384 ++ t385) ++ t386) ++ t387) ++ t388).size + t389.size) = False := eq_false (Nat.not_lt.2 c26)
        replace H := Option.bind_eq_some_iff.mp H
        obtain ⟨t390, A270, H⟩ := H
        try dsimp only at H
        have A27 := Aside0.mk A270
        clear A270
        by_cases c28 : (((((t384 ++ t385) ++ t386) ++ t387) ++ t388) ++ t389).size + t390.size ≤ 9223372036854775807
        ·rw [if_pos c28] at H
         have c28b0 := eq_true c28
         have c28b1 : decide ((((((t384 ++ t385) ++ t386) ++ t387) ++ t388) ++ t389).size + t390.size ≤ 9223372036854775807) = true := decide_eq_true c28
         have c28z := c28
         simp only [ByteArray.size_append] at c28z
         have c28z1 := eq_true c28z
         have c28z2 := eq_false (Nat.not_lt.2 c28z)
         try (have c28l := c28z; simp only [show (⟨#[0]⟩ : ByteArray).size = 1 from rfl, show (⟨#[2, 2]⟩ : ByteArray).size = 2 from rfl, show (⟨#[0, 0]⟩ : ByteArray).size = 2 from rfl, show (⟨#[0, 128]⟩ : ByteArray).size = 2 from rfl, show (⟨#[66, 66, 3, 0, 0]⟩ : ByteArray).size = 5 from rfl, Nat.reduceAdd] at c28l; have c28l1 := eq_true c28l; have c28l2 := eq_false (Nat.not_lt.2 c28l))
         try have c28b2 : (9223372036854775807 < (((((t384 ++ t385) ++ t386) ++ t387) ++ t388) ++ t389).size + t390.size) = False := eq_false (Nat.not_lt.2 c28)
         replace H := Option.bind_eq_some_iff.mp H
         obtain ⟨t391, A290, H⟩ := H
         try dsimp only at H
         have A29 := Aside0.mk A290
         clear A290
         by_cases c30 : ((((((t384 ++ t385) ++ t386) ++ t387) ++ t388) ++ t389) ++ t390).size + t391.size ≤ 9223372036854775807
         ·rw [if_pos c30] at H
          have c30b0 := eq_true c30
          have c30b1 : decide (((((((t384 ++ t385) ++ t386) ++ t387) ++ t388) ++ t389) ++ t390).size + t391.size ≤ 9223372036854775807) = true := decide_eq_true c30
          have c30z := c30
          simp only [ByteArray.size_append] at c30z
          have c30z1 := eq_true c30z
          have c30z2 := eq_false (Nat.not_lt.2 c30z)
          try (have c30l := c30z; simp only [show (⟨#[0]⟩ : ByteArray).size = 1 from rfl, show (⟨#[2, 2]⟩ : ByteArray).size = 2 from rfl, show (⟨#[0, 0]⟩ : ByteArray).size = 2 from rfl, show (⟨#[0, 128]⟩ : ByteArray).size = 2 from rfl, show (⟨#[66, 66, 3, 0, 0]⟩ : ByteArray).size = 5 from rfl, Nat.reduceAdd] at c30l; have c30l1 := eq_true c30l; have c30l2 := eq_false (Nat.not_lt.2 c30l))
          try have c30b2 : (9223372036854775807 < ((((((t384 ++ t385) ++ t386) ++ t387) ++ t388) ++ t389) ++ t390).size + t391.size) = False := eq_false (Nat.not_lt.2 c30)
          replace H := Option.bind_eq_some_iff.mp H
          obtain ⟨t392, A310, H⟩ := H
          try dsimp only at H
          have A31 := Aside0.mk A310
          clear A310
          by_cases c32 : (((((((t384 ++ t385) ++ t386) ++ t387) ++ t388) ++ t389) ++ t390) ++ t391).size + t392.size ≤ 9223372036854775807
          ·rw [if_pos c32] at H
           have c32b0 := eq_true c32
           have c32b1 : decide ((((((((t384 ++ t385) ++ t386) ++ t387) ++ t388) ++ t389) ++ t390) ++ t391).size + t392.size ≤ 9223372036854775807) = true := decide_eq_true c32
           have c32z := c32
           simp only [ByteArray.size_append] at c32z
           have c32z1 := eq_true c32z
           have c32z2 := eq_false (Nat.not_lt.2 c32z)
           try (have c32l := c32z; simp only [show (⟨#[0]⟩ : ByteArray).size = 1 from rfl, show (⟨#[2, 2]⟩ : ByteArray).size = 2 from rfl, show (⟨#[0, 0]⟩ : ByteArray).size = 2 from rfl, show (⟨#[0, 128]⟩ : ByteArray).size = 2 from rfl, show (⟨#[66, 66, 3, 0, 0]⟩ : ByteArray).size = 5 from rfl, Nat.reduceAdd] at c32l; have c32l1 := eq_true c32l; have c32l2 := eq_false (Nat.not_lt.2 c32l))
           try have c32b2 : (9223372036854775807 < (((((((t384 ++ t385) ++ t386) ++ t387) ++ t388) ++ t389) ++ t390) ++ t391).size + t392.size) = False := eq_false (Nat.not_lt.2 c32)
           by_cases c33 : a0_0 = 2
           ·rw [if_pos c33] at H
            have c33b0 : (a0_0 == 2) = true := beq_iff_eq.mpr c33
            have c33b1 : (a0_0 != 2) = false := bne_eq_false_iff_eq.mpr c33
            clear c33
            by_cases c34 : 5 + 2 ≤ 9223372036854775807
            ·rw [if_pos c34] at H
             have c34b0 := eq_true c34
             have c34b1 : decide (5 + 2 ≤ 9223372036854775807) = true := decide_eq_true c34
             try have c34b2 : (9223372036854775807 < 5 + 2) = False := eq_false (Nat.not_lt.2 c34)
             by_cases c35 : 7 + ((((((((t384 ++ t385) ++ t386) ++ t387) ++ t388) ++ t389) ++ t390) ++ t391) ++ t392).size ≤ 9223372036854775807
             ·rw [if_pos c35] at H
              have c35b0 := eq_true c35
              have c35b1 : decide (7 + ((((((((t384 ++ t385) ++ t386) ++ t387) ++ t388) ++ t389) ++ t390) ++ t391) ++ t392).size ≤ 9223372036854775807) = true := decide_eq_true c35
              have c35z := c35
              simp only [ByteArray.size_append] at c35z
              have c35z1 := eq_true c35z
              have c35z2 := eq_false (Nat.not_lt.2 c35z)
              try (have c35l := c35z; simp only [show (⟨#[0]⟩ : ByteArray).size = 1 from rfl, show (⟨#[2, 2]⟩ : ByteArray).size = 2 from rfl, show (⟨#[0, 0]⟩ : ByteArray).size = 2 from rfl, show (⟨#[0, 128]⟩ : ByteArray).size = 2 from rfl, show (⟨#[66, 66, 3, 0, 0]⟩ : ByteArray).size = 5 from rfl, Nat.reduceAdd] at c35l; have c35l1 := eq_true c35l; have c35l2 := eq_false (Nat.not_lt.2 c35l))
              try have c35b2 : (9223372036854775807 < 7 + ((((((((t384 ++ t385) ++ t386) ++ t387) ++ t388) ++ t389) ++ t390) ++ t391) ++ t392).size) = False := eq_false (Nat.not_lt.2 c35)
              by_cases c36 : (((⟨#[66, 66, 3, 0, 0]⟩ : ByteArray) ++ (⟨#[2, 2]⟩ : ByteArray)) ++ ((((((((t384 ++ t385) ++ t386) ++ t387) ++ t388) ++ t389) ++ t390) ++ t391) ++ t392)).size + 1 ≤ 9223372036854775807
              ·rw [if_pos c36] at H
               have c36b0 := eq_true c36
               have c36b1 : decide ((((⟨#[66, 66, 3, 0, 0]⟩ : ByteArray) ++ (⟨#[2, 2]⟩ : ByteArray)) ++ ((((((((t384 ++ t385) ++ t386) ++ t387) ++ t388) ++ t389) ++ t390) ++ t391) ++ t392)).size + 1 ≤ 9223372036854775807) = true := decide_eq_true c36
               have c36z := c36
               simp only [ByteArray.size_append] at c36z
               have c36z1 := eq_true c36z
               have c36z2 := eq_false (Nat.not_lt.2 c36z)
               try (have c36l := c36z; simp only [show (⟨#[0]⟩ : ByteArray).size = 1 from rfl, show (⟨#[2, 2]⟩ : ByteArray).size = 2 from rfl, show (⟨#[0, 0]⟩ : ByteArray).size = 2 from rfl, show (⟨#[0, 128]⟩ : ByteArray).size = 2 from rfl, show (⟨#[66, 66, 3, 0, 0]⟩ : ByteArray).size = 5 from rfl, Nat.reduceAdd] at c36l; have c36l1 := eq_true c36l; have c36l2 := eq_false (Nat.not_lt.2 c36l))
               have c36n := eq_false (show ¬ (9223372036854775807 < 7 + (t384.size + t385.size + t386.size + t387.size + t388.size + t389.size + t390.size + t391.size + t392.size) + 1) from by have h5_ : (⟨#[66, 66, 3, 0, 0]⟩ : ByteArray).size = 5 := rfl; have h2_ : (⟨#[2, 2]⟩ : ByteArray).size = 2 := rfl; have h3_ := c36z; rw [h5_, h2_] at h3_; omega)
               try have c36b2 : (9223372036854775807 < (((⟨#[66, 66, 3, 0, 0]⟩ : ByteArray) ++ (⟨#[2, 2]⟩ : ByteArray)) ++ ((((((((t384 ++ t385) ++ t386) ++ t387) ++ t388) ++ t389) ++ t390) ++ t391) ++ t392)).size + 1) = False := eq_false (Nat.not_lt.2 c36)
               exact z18_0
              ·rw [if_neg c36] at H
               exact absurd H qb
             ·rw [if_neg c35] at H
              exact absurd H qb
            ·rw [if_neg c34] at H
             exact absurd H qb
           ·rw [if_neg c33] at H
            have c33b0 : (a0_0 == 2) = false := beq_eq_false_iff_ne.mpr c33
            have c33b1 : (a0_0 != 2) = true := bne_iff_ne.mpr c33
            by_cases c53 : 5 + 2 ≤ 9223372036854775807
            ·rw [if_pos c53] at H
             have c53b0 := eq_true c53
             have c53b1 : decide (5 + 2 ≤ 9223372036854775807) = true := decide_eq_true c53
             try have c53b2 : (9223372036854775807 < 5 + 2) = False := eq_false (Nat.not_lt.2 c53)
             by_cases c54 : 7 + ((((((((t384 ++ t385) ++ t386) ++ t387) ++ t388) ++ t389) ++ t390) ++ t391) ++ t392).size ≤ 9223372036854775807
             ·rw [if_pos c54] at H
              have c54b0 := eq_true c54
              have c54b1 : decide (7 + ((((((((t384 ++ t385) ++ t386) ++ t387) ++ t388) ++ t389) ++ t390) ++ t391) ++ t392).size ≤ 9223372036854775807) = true := decide_eq_true c54
              have c54z := c54
              simp only [ByteArray.size_append] at c54z
              have c54z1 := eq_true c54z
              have c54z2 := eq_false (Nat.not_lt.2 c54z)
              try (have c54l := c54z; simp only [show (⟨#[0]⟩ : ByteArray).size = 1 from rfl, show (⟨#[2, 2]⟩ : ByteArray).size = 2 from rfl, show (⟨#[0, 0]⟩ : ByteArray).size = 2 from rfl, show (⟨#[0, 128]⟩ : ByteArray).size = 2 from rfl, show (⟨#[66, 66, 3, 0, 0]⟩ : ByteArray).size = 5 from rfl, Nat.reduceAdd] at c54l; have c54l1 := eq_true c54l; have c54l2 := eq_false (Nat.not_lt.2 c54l))
              try have c54b2 : (9223372036854775807 < 7 + ((((((((t384 ++ t385) ++ t386) ++ t387) ++ t388) ++ t389) ++ t390) ++ t391) ++ t392).size) = False := eq_false (Nat.not_lt.2 c54)
              exact z18_0
             ·rw [if_neg c54] at H
              exact absurd H qb
            ·rw [if_neg c53] at H
             exact absurd H qb
          ·rw [if_neg c32] at H
           exact absurd H qb
         ·rw [if_neg c30] at H
          exact absurd H qb
        ·rw [if_neg c28] at H
         exact absurd H qb
       ·rw [if_neg c26] at H
        exact absurd H qb
      ·rw [if_neg c24] at H
       exact absurd H qb
     ·rw [if_neg c22] at H
      exact absurd H qb
    ·rw [if_neg c20] at H
     exact absurd H qb
   ·rw [if_neg c18] at H
    exact absurd H qb
 ·rw [if_neg c3] at H
  have c3b0 : (t377 == 0) = false := beq_eq_false_iff_ne.mpr c3
  have c3b1 : (t377 != 0) = true := bne_iff_ne.mpr c3
  simp only [Option.some.injEq, Prod.mk.injEq] at H
  obtain ⟨rfl, rfl⟩ := H
  go_enter Tryd.func9, Tryd.ntmps9
  go_wp2_with (first | ((with_reducible refine gate_st (ty := 24) rfl ?_); refine storeC16 rfl rfl rfl rfl rfl qbz qo qf rfl ?_) | ((with_reducible refine gate_ld (ty := 24) rfl ?_); (try (with_reducible refine gate_gd rfl ?_; refine gate_guard qc8 ?_; dsimp only)); refine load_st rfl rfl rfl qbz qo Tryd.underlying24 rfl qf ?_; (try simp only [Act.put, List.setIfInBounds_toArray, List.set_cons_zero, List.set_cons_succ])) | ((with_reducible refine gate_dst (N := 1) rfl ?_); refine box_event ?hg (N := 1) ?hd (cs := #[.int .i64 a0_0, .bool a0_1, .bool a0_2, .bool a0_3, .bool a0_4, .bool a0_5, .bool a0_6, .int .i64 a0_7, .int .u64 a0_8, .int .i64 a0_9, .int .u64 a0_10, .int .i64 a0_11, .int .i64 a0_12, .int .i64 a0_13, .int .i64 a0_14, .int .i64 a0_15]) (t := 24) ?hr ?_; (case hd => rfl); (case hg => rfl); (case hr => first | (go_simp; done) | (go_simp; rfl)); intro gb376 hg w71 hbox hb; have n0_ := Aside0.mk (below_step qbh hb); have n1_ := Aside0.mk (hbox); have n2_ := Aside0.mk ((qcq : w.heap.size ≤ gb376)); have n3_ := Aside0.mk ((qcq : w.heap.size ≤ gb376)); clear HB; have HB := n0_; have BK376 := n1_; have GW376 := n2_; have GE376 := n3_; clear n0_ n1_ n2_ n3_; clear hb hbox hg; obtain ⟨hcz72_0, hcz72_1, hcz72_2, hcz72_3, hcz72_4, hcz72_5, hcz72_6, hcz72_7, hcz72_8, hcz72_9, hcz72_10, hcz72_11, hcz72_12, hcz72_13, hcz72_14, hcz72_15⟩ := cells16 BK376.out; obtain ⟨hfz72_0, hfz72_1, hfz72_2, hfz72_3, hfz72_4, hfz72_5, hfz72_6, hfz72_7, hfz72_8, hfz72_9, hfz72_10, hfz72_11, hfz72_12, hfz72_13, hfz72_14, hfz72_15⟩ := frozen16 BK376.out) | ((with_reducible refine gate_callee (f := 12) rfl ?_); refine goesL_ (some 9) rfl rfl Tryd.func12 qf rfl #[.agg #[.int .i64 a0_0, .bool a0_1, .bool a0_2, .bool a0_3, .bool a0_4, .bool a0_5, .bool a0_6, .int .i64 a0_7, .int .u64 a0_8, .int .i64 a0_9, .int .u64 a0_10, .int .i64 a0_11, .int .i64 a0_12, .int .i64 a0_13, .int .i64 a0_14, .int .i64 a0_15]] rfl qbi ?_; (with_reducible refine (gangwayref09_Check.calls k a0_0 a0_1 a0_2 a0_3 a0_4 a0_5 a0_6 a0_7 a0_8 a0_9 a0_10 a0_11 a0_12 a0_13 a0_14 a0_15 t377 _ A2.out).mono ?_); rintro e w73 ⟨rfl, hb⟩; refine ⟨_, rfl, ?_⟩; have n0_ := Aside0.mk (blk_below (g := gb376) q2 hb); have n1_ := Aside0.mk (below_step qbv hb); clear BK376; clear HB; have BK376 := n0_; have HB := n1_; clear n0_ n1_; obtain ⟨hcy1_376_0, hcy1_376_1, hcy1_376_2, hcy1_376_3, hcy1_376_4, hcy1_376_5, hcy1_376_6, hcy1_376_7, hcy1_376_8, hcy1_376_9, hcy1_376_10, hcy1_376_11, hcy1_376_12, hcy1_376_13, hcy1_376_14, hcy1_376_15⟩ := cells16 BK376.out; (try clear hb); (try clear hb2); (try clear hk); (try clear hi)))
  go_ret2
  exact ⟨by first | rfl | (simp [errW_none, errW_some] <;> rfl) | (simp [*, errW_none, errW_some] <;> rfl) | (simp [*, IntKind.wrap_u32]; done) | (simp_all [IntKind.wrap_u32]; done), by repeat (first | (with_reducible first | exact HB.out | apply below_alloc | apply pw_below_drewN | apply below_drew1 | refine below_set ?_ GE376.out) | exact HB.out)⟩
end Go.Proofs.YtbfjlhjfpmgplaaDoor.P
