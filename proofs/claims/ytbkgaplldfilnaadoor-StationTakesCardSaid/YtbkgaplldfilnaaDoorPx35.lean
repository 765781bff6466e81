-- slim
-- Written by wip/hprint.py (this session's program) through the kit's print program; hand contracts are marked 'by hand'.
import Derived.Test.YtbkgaplldfilnaaDoorAbb
import Derived.Test.YtbkgaplldfilnaaDoorRow
import Derived.Test.YtbkgaplldfilnaaDoorPx0
import Derived.Test.YtbkgaplldfilnaaDoorPx31
import Derived.Test.YtbkgaplldfilnaaDoorPx34
namespace Go.Proofs.YtbkgaplldfilnaaDoor.P
open Go.RowKit Go.Proofs.YtbkgaplldfilnaaDoorW.PrintWords Go.Proofs.YtbkgaplldfilnaaDoorW.PrintLast Go.Proofs.YtbkgaplldfilnaaDoorW.PrintMore
attribute [local go_sem] max2_int min2_int max_two min_two max_three min_three max_four min_four   -- for this text's walks alone
set_option linter.unusedVariables false
set_option linter.unusedSimpArgs false

theorem qz02 {p : Prop} (h : p := by (with_reducible repeat (first | refine blk_drewN ?_ _ | refine blk_drew ?_ | refine blk_alloc ?_ _)); exact BK474.out) : p := h
theorem qjij {p : Prop} (h : p := by repeat (first | (with_reducible first | exact HB.out | apply below_alloc | apply pw_below_drewN | apply below_drew1 | refine below_set ?_ GE474.out) | exact HB.out)) : p := h
theorem q0z2 {p : Prop} (h : p := by with_reducible repeat (first | (apply blk_far; case hp => assumption) | apply blk_set | refine blk_drewN ?_ _ | refine blk_drew ?_ | refine blk_alloc ?_ _ | exact BK474.out | exact BK477.out)) : p := h
theorem qd7d {p : Prop} (h : p := by repeat (first | (with_reducible first | exact HB.out | apply below_alloc | apply pw_below_drewN | apply below_drew1 | refine below_set ?_ GEz0.out | refine below_set ?_ GEz5.out) | exact HB.out)) : p := h
/-! ### station_Make: function 11 -/
def station_Make.f (k : Nat) (a0 : Int) (a1 : Int) (a2_0 : Int) (a2_1 : Int) (a2_2 : Bool) (a2_3 : ByteArray) (a3 : Int) (a4 : Int) : Option (ByteArray × Int) := (udp_Build.f k a0 a1 a2_0 a2_1 a2_2 a2_3).bind fun bt475 => (if bt475.2 = 0 then ((inet_Build.f k 0 (Go.bits .and .i64 a3 65535) true false 0 64 17 a0 a1 bt475.1).bind fun bt478 => (if bt478.2 = 0 then (if (bt478.1.size : Int) > a4 then (some ((⟨#[]⟩ : ByteArray), 201)) else (some (bt478.1, 0))) else (some ((⟨#[]⟩ : ByteArray), 201)))) else (some ((⟨#[]⟩ : ByteArray), bt475.2)))
theorem station_Make.mono : ∀ a0 a1 a2 a3 a4 a5 a6 a7 k, LeO (station_Make.f k a0 a1 a2 a3 a4 a5 a6 a7) (station_Make.f (k + 1) a0 a1 a2 a3 a4 a5 a6 a7) := by
 intro a0 a1 a2 a3 a4 a5 a6 a7 k
 unfold station_Make.f
 repeat' first
   | (with_reducible exact inet_Build.mono _ _ _ _ _ _ _ _ _ _ _)
   | (with_reducible exact udp_Build.mono _ _ _ _ _ _ _)
   | (with_reducible exact LeO.refl _)
   | (with_reducible exact LeO.none _)
   | (with_reducible refine LeO.ite ?_ ?_)
   | (with_reducible refine LeO.bind ?_ (fun _ => ?_))
   | exact inet_Build.mono _ _ _ _ _ _ _ _ _ _ _
   | exact udp_Build.mono _ _ _ _ _ _ _
   | exact LeO.none _
   | refine LeO.ite ?_ ?_
   | refine LeO.bind ?_ (fun _ => ?_)
set_option maxRecDepth 100000 in
theorem z35_0 {p : Prop} (h : p := by
 simp only [Option.some.injEq, Prod.mk.injEq] at H
 obtain ⟨rfl, rfl⟩ := H
 go_enter Tryd.func11, Tryd.ntmps11
 go_wp2_with (first | ((with_reducible refine gate_st (ty := 64) rfl ?_); refine storeC10 rfl rfl rfl rfl rfl q0z2 qr2c qg3m rfl ?_) | ((with_reducible refine gate_ld (ty := 64) rfl ?_); (try (with_reducible refine gate_gd rfl ?_; refine gate_guard q8ju ?_; dsimp only)); refine load_st rfl rfl rfl q0z2 qr2c Tryd.underlying64 rfl qg3m ?_; (try simp only [Act.put, List.setIfInBounds_toArray, List.set_cons_zero, List.set_cons_succ])) | ((with_reducible refine gate_dst (N := 7) rfl ?_); (try (refine gate_guard qgcr ?_; dsimp only)); refine box_event qgcr (N := 7) qgcr (cs := #[.int .i64 a2_0, .int .i64 a2_1, .bool a2_2, .string a2_3]) (t := 31) qlto ?_; intro gbz0 hg wz1 hbox hb; have BK474 := Aside0.mk (hbox); have GEz0 := Aside0.mk ((qisx : w.heap.size ≤ gbz0)); replace HB := Aside0.mk (below_step qpag hb); clear hb hbox hg; obtain ⟨hczz2_0, hczz2_1, hczz2_2, hczz2_3⟩ := cells4 BK474.out; obtain ⟨hfzz2_0, hfzz2_1, hfzz2_2, hfzz2_3⟩ := frozen4 BK474.out) | ((with_reducible refine gate_callee (f := 23) rfl ?_); refine goesL_ (some 20) rfl rfl Tryd.func23 qg3m rfl #[.int .u32 a0, .int .u32 a1, .agg #[.int .i64 a2_0, .int .i64 a2_1, .bool a2_2, .string a2_3]] rfl qraq ?_; (with_reducible refine (udp_Build.calls k a0 a1 a2_0 a2_1 a2_2 a2_3 t475 t476 _ A6.out).mono ?_); rintro e wz3 ⟨rfl, hb⟩; refine ⟨_, rfl, ?_⟩; replace BK474 := Aside0.mk (blk_below (g := gbz0) qz02 hb); replace HB := Aside0.mk (below_step qmef hb); obtain ⟨hcyz4_474_0, hcyz4_474_1, hcyz4_474_2, hcyz4_474_3⟩ := cells4 BK474.out; (try clear hb); (try clear hb2); (try clear hk); (try clear hi)) | ((with_reducible refine gate_dst (N := 14) rfl ?_); (try (refine gate_guard qgcr ?_; dsimp only)); refine box_event qgcr (N := 14) qgcr (cs := #[.int .i64 0, .int .i64 0, .bool false, .bool false, .int .i64 0, .int .i64 0, .int .i64 0, .int .u32 0, .int .u32 0, .string (⟨#[]⟩ : ByteArray)]) (t := 64) qlto ?_; intro gbz5 hg wz6 hbox hb; have BK477 := Aside0.mk (hbox); have GEz5 := Aside0.mk ((by rw [hg]; exact (below_size qmef) : w.heap.size ≤ gbz5)); have NBz0_477 := Aside0.mk ((by rw [hg]; exact Nat.ne_of_lt (blk_lt (g := gbz0) qz02) : gbz0 ≠ gbz5)); have NBz5_474 := Aside0.mk ((by rw [hg]; exact Nat.ne_of_gt (blk_lt (g := gbz0) qz02) : gbz5 ≠ gbz0)); replace BK474 := Aside0.mk (blk_below (g := gbz0) qz02 hb); replace HB := Aside0.mk (below_step qmef hb); obtain ⟨hcyz7_474_0, hcyz7_474_1, hcyz7_474_2, hcyz7_474_3⟩ := cells4 BK474.out; clear hb hbox hg; have hnbz8 := NBz5_474.out; have hncz8 := NBz0_477.out; obtain ⟨hczz9_0, hczz9_1, hczz9_2, hczz9_3, hczz9_4, hczz9_5, hczz9_6, hczz9_7, hczz9_8, hczz9_9⟩ := cells10 BK477.out; obtain ⟨hfzz9_0, hfzz9_1, hfzz9_2, hfzz9_3, hfzz9_4, hfzz9_5, hfzz9_6, hfzz9_7, hfzz9_8, hfzz9_9⟩ := frozen10 BK477.out) | ((with_reducible refine gate_callee (f := 24) rfl ?_); refine goesL_ (some 34) rfl rfl Tryd.func24 qg3m rfl #[.agg #[.int .i64 0, .int .i64 (Go.bits .and .i64 a3 65535), .bool true, .bool false, .int .i64 0, .int .i64 64, .int .i64 17, .int .u32 a0, .int .u32 a1, .string t475]] rfl qraq ?_; (with_reducible refine (inet_Build.calls k 0 (Go.bits .and .i64 a3 65535) true false 0 64 17 a0 a1 t475 t478 t479 _ A8.out).mono ?_); rintro e wz10 ⟨rfl, hb⟩; refine ⟨_, rfl, ?_⟩; replace BK474 := Aside0.mk (blk_below (g := gbz0) (o := .cells #[.int .i64 a2_0, .int .i64 a2_1, .bool a2_2, .string a2_3] 31 (0, 0)) (by (with_reducible repeat (first | refine blk_drewN ?_ _ | refine blk_drew ?_ | refine blk_alloc ?_ _ | refine blk_far ?_ NBz0_477.out _)); exact BK474.out) hb); replace BK477 := Aside0.mk (blk_below (g := gbz5) (o := .cells #[.int .i64 0, .int .i64 (Go.bits .and .i64 a3 65535), .bool true, .bool false, .int .i64 0, .int .i64 64, .int .i64 17, .int .u32 a0, .int .u32 a1, .string t475] 64 (0, 0)) (by (with_reducible repeat (first | refine blk_drewN ?_ _ | refine blk_drew ?_ | refine blk_alloc ?_ _)); exact put10_0_10 (by (with_reducible repeat (first | refine blk_drewN ?_ _ | refine blk_drew ?_ | refine blk_alloc ?_ _)); exact BK477.out)) hb); replace HB := Aside0.mk (below_step qd7d hb); obtain ⟨hcyz11_474_0, hcyz11_474_1, hcyz11_474_2, hcyz11_474_3⟩ := cells4 BK474.out; (try clear hb); (try clear hb2); (try clear hk); (try clear hi)))
 go_ret2
 exact ⟨qxu5, qd7d⟩) : p := h
set_option maxHeartbeats 8000000 in
set_option maxRecDepth 100000 in
theorem station_Make.calls (k : Nat) (a0 : Int) (a1 : Int) (a2_0 : Int) (a2_1 : Int) (a2_2 : Bool) (a2_3 : ByteArray) (a3 : Int) (a4 : Int) (r1 : ByteArray) (r2 : Int) (w : World) (h : station_Make.f k a0 a1 a2_0 a2_1 a2_2 a2_3 a3 a4 = some (r1, r2)) :
  Calls Tryd.prog 11 #[.int .u32 a0, .int .u32 a1, .agg #[.int .i64 a2_0, .int .i64 a2_1, .bool a2_2, .string a2_3], .int .i64 a3, .int .i64 a4] w fun e w' => e = .returned (.tuple #[.string r1, .int .i64 r2]) ∧ Below w.heap.size w w' := by
 have hu31 := Tryd.underlying31
 have hu64 := Tryd.underlying64
 have HB := Aside0.mk (Below.refl w.heap.size w)
 have H := h
 unfold station_Make.f at H
 clear h
 replace H := Option.bind_eq_some_iff.mp H
 obtain ⟨⟨t475, t476⟩, A60, H⟩ := H
 try dsimp only at H
 have A6 := Aside0.mk A60
 clear A60
 by_cases c7 : t476 = 0
 ·rw [if_pos c7] at H
  have c7b0 : (t476 == 0) = true := beq_iff_eq.mpr c7
  have c7b1 : (t476 != 0) = false := bne_eq_false_iff_eq.mpr c7
  clear c7
  replace H := Option.bind_eq_some_iff.mp H
  obtain ⟨⟨t478, t479⟩, A80, H⟩ := H
  try dsimp only at H
  have A8 := Aside0.mk A80
  clear A80
  by_cases c9 : t479 = 0
  ·rw [if_pos c9] at H
   have c9b0 : (t479 == 0) = true := beq_iff_eq.mpr c9
   have c9b1 : (t479 != 0) = false := bne_eq_false_iff_eq.mpr c9
   clear c9
   by_cases c10 : (t478.size : Int) > a4
   ·rw [if_pos c10] at H
    have c10b0 : decide (a4 < (t478.size : Int)) = true := decide_eq_true c10
    clear c10
    exact z35_0
   ·rw [if_neg c10] at H
    have c10b0 : decide (a4 < (t478.size : Int)) = false := decide_eq_false c10
    clear c10
    exact z35_0
  ·rw [if_neg c9] at H
   have c9b0 : (t479 == 0) = false := beq_eq_false_iff_ne.mpr c9
   have c9b1 : (t479 != 0) = true := bne_iff_ne.mpr c9
   exact z35_0
 ·rw [if_neg c7] at H
  have c7b0 : (t476 == 0) = false := beq_eq_false_iff_ne.mpr c7
  have c7b1 : (t476 != 0) = true := bne_iff_ne.mpr c7
  simp only [Option.some.injEq, Prod.mk.injEq] at H
  obtain ⟨rfl, rfl⟩ := H
  go_enter Tryd.func11, Tryd.ntmps11
  go_wp2_with (first | ((with_reducible refine gate_st (ty := 64) rfl ?_); refine storeC10 rfl rfl rfl rfl rfl q0z2 qr2c qg3m rfl ?_) | ((with_reducible refine gate_ld (ty := 64) rfl ?_); (try (with_reducible refine gate_gd rfl ?_; refine gate_guard q8ju ?_; dsimp only)); refine load_st rfl rfl rfl q0z2 qr2c Tryd.underlying64 rfl qg3m ?_; (try simp only [Act.put, List.setIfInBounds_toArray, List.set_cons_zero, List.set_cons_succ])) | ((with_reducible refine gate_dst (N := 7) rfl ?_); (try (refine gate_guard qgcr ?_; dsimp only)); refine box_event qgcr (N := 7) qgcr (cs := #[.int .i64 a2_0, .int .i64 a2_1, .bool a2_2, .string a2_3]) (t := 31) qlto ?_; intro gb474 hg w32 hbox hb; have BK474 := Aside0.mk (hbox); have GE474 := Aside0.mk ((qisx : w.heap.size ≤ gb474)); replace HB := Aside0.mk (below_step qpag hb); clear hb hbox hg; obtain ⟨hcz33_0, hcz33_1, hcz33_2, hcz33_3⟩ := cells4 BK474.out; obtain ⟨hfz33_0, hfz33_1, hfz33_2, hfz33_3⟩ := frozen4 BK474.out) | ((with_reducible refine gate_callee (f := 23) rfl ?_); refine goesL_ (some 20) rfl rfl Tryd.func23 qg3m rfl #[.int .u32 a0, .int .u32 a1, .agg #[.int .i64 a2_0, .int .i64 a2_1, .bool a2_2, .string a2_3]] rfl qraq ?_; (with_reducible refine (udp_Build.calls k a0 a1 a2_0 a2_1 a2_2 a2_3 t475 t476 _ A6.out).mono ?_); rintro e w34 ⟨rfl, hb⟩; refine ⟨_, rfl, ?_⟩; replace BK474 := Aside0.mk (blk_below (g := gb474) qz02 hb); replace HB := Aside0.mk (below_step qjij hb); obtain ⟨hcy1_474_0, hcy1_474_1, hcy1_474_2, hcy1_474_3⟩ := cells4 BK474.out; (try clear hb); (try clear hb2); (try clear hk); (try clear hi)))
  go_ret2
  exact ⟨qxu5, qjij⟩
/-! ### gangwaylaw20_plain: function 22 -/
def gangwaylaw20_plain.f  : Option (Int × Int × Bool × ByteArray) := some (50000, 4789, true, (⟨#[104, 105]⟩ : ByteArray))
set_option maxHeartbeats 8000000 in
set_option maxRecDepth 100000 in
theorem gangwaylaw20_plain.calls  (r1 : Int) (r2 : Int) (r3 : Bool) (r4 : ByteArray) (w : World) (h : gangwaylaw20_plain.f  = some (r1, r2, r3, r4)) :
  Calls Tryd.prog 22 #[] w fun e w' => e = .returned (.agg #[.int .i64 r1, .int .i64 r2, .bool r3, .string r4]) ∧ Below w.heap.size w w' := by
 have hu31 := Tryd.underlying31
 have HB := Aside0.mk (Below.refl w.heap.size w)
 have H := h
 unfold gangwaylaw20_plain.f at H
 clear h
 simp only [Option.some.injEq, Prod.mk.injEq] at H
 obtain ⟨rfl, rfl, rfl, rfl⟩ := H
 go_enter Tryd.func22, Tryd.ntmps22
 go_wp2_with (first | ((with_reducible refine gate_dst (N := 0) rfl ?_); refine box_event qgcr (N := 0) qgcr (cs := #[.int .i64 0, .int .i64 0, .bool false, .string (⟨#[]⟩ : ByteArray)]) (t := 31) qlto ?_; intro gb480 hg w1 hbox hb; have BK480 := Aside0.mk (hbox); have GE480 := Aside0.mk ((qisx : w.heap.size ≤ gb480)); replace HB := Aside0.mk (below_step qpag hb); clear hb hbox hg; obtain ⟨hcz2_0, hcz2_1, hcz2_2, hcz2_3⟩ := cells4 BK480.out; obtain ⟨hfz2_0, hfz2_1, hfz2_2, hfz2_3⟩ := frozen4 BK480.out))
 refine bodyPost_ret (results_cell_row rfl _ _ gb480 31 #[.int .i64 50000, .int .i64 4789, .bool true, .string (⟨#[104, 105]⟩ : ByteArray)] (0, 0) _ rfl (by (with_reducible repeat (first | refine blk_drewN ?_ _ | refine blk_drew ?_ | refine blk_alloc ?_ _)); exact put4_0_4 (by (with_reducible repeat (first | refine blk_drewN ?_ _ | refine blk_drew ?_ | refine blk_alloc ?_ _)); exact BK480.out)) Tryd.underlying31 rfl qg3m) rfl ?_
 exact ⟨qxu5, (by repeat (first | (with_reducible first | exact HB.out | apply below_alloc | apply pw_below_drewN | apply below_drew1 | refine below_set ?_ GE480.out) | exact HB.out))⟩
attribute [local go_sem] max2_int min2_int max_two min_two max_three min_three max_four min_four   -- for this text's walks alone
set_option linter.unusedVariables false
set_option linter.unusedSimpArgs false

/-! ### gangwayref01_Bytes: function 51 -/
def gangwayref01_Bytes.l0 : Nat → Int → Int → ByteArray → Int → Option (ByteArray)
 | 0, _, _, _, _ => none
 | k + 1, x0, x1, x5, x6 => if x6 < x1 then ((some (([(Int.tmod x0 256) % 256] : List Int) : List Int)).bind fun y295 => (if (strOfNums y295).size + x5.size ≤ 9223372036854775807 then (gangwayref01_Bytes.l0 k (IntKind.u64.wrap (Int.tdiv x0 256)) x1 ((strOfNums y295) ++ x5) (wrap64 (x6 + 1))) else (none))) else (some x5)
def gangwayref01_Bytes.f (k : Nat) (a0 : Int) (a1 : Int) : Option (ByteArray) := gangwayref01_Bytes.l0 k a0 a1 (⟨#[]⟩ : ByteArray) 0
theorem gangwayref01_Bytes.mono_l : ∀ k, (∀ y0 y1 y2 y3, LeO (gangwayref01_Bytes.l0 k y0 y1 y2 y3) (gangwayref01_Bytes.l0 (k + 1) y0 y1 y2 y3))
 | 0 => fun _ _ _ _ r h => by simp [gangwayref01_Bytes.l0] at h
 | k + 1 => by
  have ih0 := gangwayref01_Bytes.mono_l k
  ·intro y0 y1 y2 y3
   unfold gangwayref01_Bytes.l0
   repeat' first
   | (with_reducible exact ih0 _ _ _ _)
   | (with_reducible exact LeO.refl _)
   | (with_reducible exact LeO.none _)
   | (with_reducible refine LeO.ite ?_ ?_)
   | (with_reducible refine LeO.bind ?_ (fun _ => ?_))
   | exact ih0 _ _ _ _
   | exact LeO.none _
   | refine LeO.ite ?_ ?_
   | refine LeO.bind ?_ (fun _ => ?_)
theorem gangwayref01_Bytes.mono : ∀ a0 a1 k, LeO (gangwayref01_Bytes.f k a0 a1) (gangwayref01_Bytes.f (k + 1) a0 a1) := by
 intro a0 a1 k
 have ih0 := gangwayref01_Bytes.mono_l k
 unfold gangwayref01_Bytes.f
 repeat' first
   | (with_reducible exact ih0 _ _ _ _)
   | (with_reducible exact LeO.refl _)
   | (with_reducible exact LeO.none _)
   | (with_reducible refine LeO.ite ?_ ?_)
   | (with_reducible refine LeO.bind ?_ (fun _ => ?_))
   | exact ih0 _ _ _ _
   | exact LeO.none _
   | refine LeO.ite ?_ ?_
   | refine LeO.bind ?_ (fun _ => ?_)
set_option maxHeartbeats 8000000 in
set_option maxRecDepth 100000 in
theorem gangwayref01_Bytes.calls (k : Nat) (a0 : Int) (a1 : Int) (r : ByteArray) (w : World) (h : gangwayref01_Bytes.f k a0 a1 = some r) :
  Calls Tryd.prog 51 #[.int .u64 a0, .int .i64 a1] w fun e w' => e = .returned (.string r) ∧ Below w.heap.size w w' := by
 have HB := Aside0.mk (Below.refl w.heap.size w)
 have H := h
 unfold gangwayref01_Bytes.f at H
 clear h
 have H' := Aside0.mk H
 clear H
 go_enter Tryd.func51, Tryd.ntmps51
 go_wp2
 go_loopg [0, 5, 6] k (fun kq v0 v5 v6 w' => ∃ (x0_1 : Int) (x5_1 : ByteArray) (x6_1 : Int), v0 = .int .u64 x0_1 ∧ v5 = .string x5_1 ∧ v6 = .int .i64 x6_1 ∧ Aside0 (gangwayref01_Bytes.l0 kq x0_1 a1 x5_1 x6_1 = some r) ∧ Aside0 (kq ≤ k) ∧ Aside0 (Below w.heap.size w w'))
 case atStart => exact ⟨(a0), ((⟨#[]⟩ : ByteArray)), (0), q8z4, q8z4, q8z4, H', ⟨Nat.le_refl _⟩, ⟨qpag⟩⟩
 case round =>
  clear H'
  try clear p2
  obtain ⟨x0_1, x5_1, x6_1, rfl, rfl, rfl, HA, HK1, HB⟩ := hrel
  cases gk with
  | zero => exact absurd HA.out (by simp [gangwayref01_Bytes.l0])
  | succ k1 =>
   have H := HA.out
   clear HA
   simp only [gangwayref01_Bytes.l0] at H
   by_cases c3 : x6_1 < a1
   ·rw [if_pos c3] at H
    have c3b0 : decide (x6_1 < a1) = true := decide_eq_true c3
    clear c3
    obtain ⟨y295, hy295⟩ : ∃ y_ : List Int, y_ = (([(Int.tmod x0_1 256) % 256] : List Int)) := ⟨_, rfl⟩
    replace H : (if (strOfNums y295).size + x5_1.size ≤ 9223372036854775807 then (gangwayref01_Bytes.l0 k1 (IntKind.u64.wrap (Int.tdiv x0_1 256)) a1 ((strOfNums y295) ++ x5_1) (wrap64 (x6_1 + 1))) else (none)) = some r := by first | (rw [hy295]; with_reducible exact H) | (have H2_ := (Option.bind_some _ _).symm.trans H; rw [hy295]; with_reducible exact H2_) | (have H2_ := (Option.bind_some _ _).symm.trans H; with_reducible exact H2_) | with_reducible exact H | (rw [hy295]; exact H) | exact H
    have Ny295 := Aside0.mk hy295
    clear hy295
    by_cases c4 : (strOfNums y295).size + x5_1.size ≤ 9223372036854775807
    ·rw [if_pos c4] at H
     have c4b0 := eq_true c4
     have c4b1 : decide ((strOfNums y295).size + x5_1.size ≤ 9223372036854775807) = true := decide_eq_true c4
     try have c4b2 : (9223372036854775807 < (strOfNums y295).size + x5_1.size) = False := eq_false (Nat.not_lt.2 c4)
     have H' := Aside0.mk H
     clear H
     go_wp2_with (first | ((with_reducible refine gate_dst (N := 15) rfl ?_); refine Kd.R_lit (Kd.int .u8) _ 5 ?hg (N := 15) ?hd (xs := ([(Int.tmod x0_1 256) % 256] : List Int)) (inner := [.int .u8 ((Int.tmod x0_1 256) % 256)]) (ok := fun _ => True) (okp := fun _ => True) ?hr ?hp (fun _ hk => hk) trivial (Below.refl _ _) (Nat.le_refl _) q6hr ?_; (case hd => rfl); (case hg => rfl); (case hr => first | (go_simp; done) | (go_simp; rfl)); (case hp => exact (Reps.one (show Kd.M (Kd.int .u8) _ _ _ ((Int.tmod x0_1 256) % 256) [.int .u8 ((Int.tmod x0_1 256) % 256)] from rfl) (Reps.none _ _))); intro v296 w5 ho6 hb hg_ hnew_; clear hg_ hnew_; (first | rw [← Ny295.out] at ho6 | (simp only [Int.reduceToNat] at ho6; rw [← Ny295.out] at ho6)); have HO297 := Aside0.mk (Kd.R_lower ho6 (below_size qpag)); replace HB := Aside0.mk (below_step qpag hb); clear hb ho6; have hcv7 := own_string (P := Tryd.prog) Tryd.underlying48 Tryd.underlying5 Tryd.underlying9 (Kd.own_of_R HO297.out)))
     go_roundg k1
     case measure => have := HK1.out; omega
     case rel => exact ⟨(IntKind.u64.wrap (Int.tdiv x0_1 256)), ((strOfNums y295) ++ x5_1), (wrap64 (x6_1 + 1)), q8z4, q8z4, q8z4, H', ⟨(by have := HK1.out; omega)⟩, ⟨qpag⟩⟩
    ·rw [if_neg c4] at H
     exact absurd H q6hr
   ·rw [if_neg c3] at H
    have c3b0 : decide (x6_1 < a1) = false := decide_eq_false c3
    clear c3
    obtain rfl := Option.some.inj H
    go_wp2
    go_ret
    exact ⟨qxu5, qpag⟩

/-! ### gangwayref03_low: function 68 -/
def gangwayref03_low.f (a0 : Int) : Option (Int) := some (Int.tmod (wrap64 ((Int.tmod a0 65536) + 65536)) 65536)
set_option maxHeartbeats 8000000 in
set_option maxRecDepth 100000 in
theorem gangwayref03_low.calls (a0 : Int) (r : Int) (w : World) (h : gangwayref03_low.f a0 = some r) :
  Calls Tryd.prog 68 #[.int .i64 a0] w fun e w' => e = .returned (.int .i64 r) ∧ Drawn0 w w' := by
 have H := h
 unfold gangwayref03_low.f at H
 clear h
 obtain rfl := Option.some.inj H
 go_enter Tryd.func68, Tryd.ntmps68
 go_wp2
 go_ret
 exact ⟨q8z4, qlmv⟩

/-! ### gangwayref03_Head: function 41 -/
def gangwayref03_Head.f (k : Nat) (a0 : Int) (a1 : Int) (a2 : Int) (a3 : Int) : Option (ByteArray) := (gangwayref01_Bytes.f k (IntKind.u64.wrap (a0)) 4).bind fun t298 => ((gangwayref01_Bytes.f k (IntKind.u64.wrap (a1)) 4).bind fun t299 => (if t298.size + t299.size ≤ 9223372036854775807 then ((gangwayref01_Bytes.f k ((a2) % 256) 2).bind fun t300 => (if (t298 ++ t299).size + t300.size ≤ 9223372036854775807 then ((gangwayref03_low.f a3).bind fun t301 => ((gangwayref01_Bytes.f k (IntKind.u64.wrap (t301)) 2).bind fun t302 => (if ((t298 ++ t299) ++ t300).size + t302.size ≤ 9223372036854775807 then (some (((t298 ++ t299) ++ t300) ++ t302)) else (none)))) else (none))) else (none)))
theorem gangwayref03_Head.mono : ∀ a0 a1 a2 a3 k, LeO (gangwayref03_Head.f k a0 a1 a2 a3) (gangwayref03_Head.f (k + 1) a0 a1 a2 a3) := by
 intro a0 a1 a2 a3 k
 unfold gangwayref03_Head.f
 repeat' first
   | (with_reducible exact gangwayref01_Bytes.mono _ _ _)
   | (with_reducible exact LeO.refl _)
   | (with_reducible exact LeO.none _)
   | (with_reducible refine LeO.ite ?_ ?_)
   | (with_reducible refine LeO.bind ?_ (fun _ => ?_))
   | exact gangwayref01_Bytes.mono _ _ _
   | exact LeO.none _
   | refine LeO.ite ?_ ?_
   | refine LeO.bind ?_ (fun _ => ?_)
set_option maxHeartbeats 8000000 in
set_option maxRecDepth 100000 in
theorem gangwayref03_Head.calls (k : Nat) (a0 : Int) (a1 : Int) (a2 : Int) (a3 : Int) (r : ByteArray) (w : World) (h : gangwayref03_Head.f k a0 a1 a2 a3 = some r) :
  Calls Tryd.prog 41 #[.int .u32 a0, .int .u32 a1, .int .i64 a2, .int .i64 a3] w fun e w' => e = .returned (.string r) ∧ Below w.heap.size w w' := by
 have HB := Aside0.mk (Below.refl w.heap.size w)
 have H := h
 unfold gangwayref03_Head.f at H
 clear h
 replace H := Option.bind_eq_some_iff.mp H
 obtain ⟨t298, A50, H⟩ := H
 try dsimp only at H
 have A5 := Aside0.mk A50
 clear A50
 replace H := Option.bind_eq_some_iff.mp H
 obtain ⟨t299, A60, H⟩ := H
 try dsimp only at H
 have A6 := Aside0.mk A60
 clear A60
 by_cases c7 : t298.size + t299.size ≤ 9223372036854775807
 ·rw [if_pos c7] at H
  have c7b0 := eq_true c7
  have c7b1 : decide (t298.size + t299.size ≤ 9223372036854775807) = true := decide_eq_true c7
  try have c7b2 : (9223372036854775807 < t298.size + t299.size) = False := eq_false (Nat.not_lt.2 c7)
  replace H := Option.bind_eq_some_iff.mp H
  obtain ⟨t300, A80, H⟩ := H
  try dsimp only at H
  have A8 := Aside0.mk A80
  clear A80
  by_cases c9 : (t298 ++ t299).size + t300.size ≤ 9223372036854775807
  ·rw [if_pos c9] at H
   have c9b0 := eq_true c9
   have c9b1 : decide ((t298 ++ t299).size + t300.size ≤ 9223372036854775807) = true := decide_eq_true c9
   have c9z := c9
   simp only [ByteArray.size_append] at c9z
   have c9z1 := eq_true c9z
   have c9z2 := eq_false (Nat.not_lt.2 c9z)
   try have c9b2 : (9223372036854775807 < (t298 ++ t299).size + t300.size) = False := eq_false (Nat.not_lt.2 c9)
   replace H := Option.bind_eq_some_iff.mp H
   obtain ⟨t301, A100, H⟩ := H
   try dsimp only at H
   have A10 := Aside0.mk A100
   clear A100
   replace H := Option.bind_eq_some_iff.mp H
   obtain ⟨t302, A110, H⟩ := H
   try dsimp only at H
   have A11 := Aside0.mk A110
   clear A110
   by_cases c12 : ((t298 ++ t299) ++ t300).size + t302.size ≤ 9223372036854775807
   ·rw [if_pos c12] at H
    have c12b0 := eq_true c12
    have c12b1 : decide (((t298 ++ t299) ++ t300).size + t302.size ≤ 9223372036854775807) = true := decide_eq_true c12
    have c12z := c12
    simp only [ByteArray.size_append] at c12z
    have c12z1 := eq_true c12z
    have c12z2 := eq_false (Nat.not_lt.2 c12z)
    try have c12b2 : (9223372036854775807 < ((t298 ++ t299) ++ t300).size + t302.size) = False := eq_false (Nat.not_lt.2 c12)
    obtain rfl := Option.some.inj H
    go_enter Tryd.func41, Tryd.ntmps41
    go_wp2_with (first | ((with_reducible refine gate_callee (f := 51) rfl ?_); refine goesL_ (some 11) rfl rfl Tryd.func51 qg3m rfl #[.int .u64 (IntKind.u64.wrap (a0)), .int .i64 4] rfl qraq ?_; (with_reducible refine (gangwayref01_Bytes.calls k (IntKind.u64.wrap (a0)) 4 t298 _ A5.out).mono ?_); rintro e w13 ⟨rfl, hb⟩; refine ⟨_, rfl, ?_⟩; replace HB := Aside0.mk (below_step qpag hb); (try clear hb); (try clear hb2); (try clear hk); (try clear hi)) | ((with_reducible refine gate_callee (f := 51) rfl ?_); refine goesL_ (some 14) rfl rfl Tryd.func51 qg3m rfl #[.int .u64 (IntKind.u64.wrap (a1)), .int .i64 4] rfl qraq ?_; (with_reducible refine (gangwayref01_Bytes.calls k (IntKind.u64.wrap (a1)) 4 t299 _ A6.out).mono ?_); rintro e w14 ⟨rfl, hb⟩; refine ⟨_, rfl, ?_⟩; replace HB := Aside0.mk (below_step qpag hb); (try clear hb); (try clear hb2); (try clear hk); (try clear hi)) | ((with_reducible refine gate_callee (f := 51) rfl ?_); refine goesL_ (some 19) rfl rfl Tryd.func51 qg3m rfl #[.int .u64 ((a2) % 256), .int .i64 2] rfl qraq ?_; (with_reducible refine (gangwayref01_Bytes.calls k ((a2) % 256) 2 t300 _ A8.out).mono ?_); rintro e w15 ⟨rfl, hb⟩; refine ⟨_, rfl, ?_⟩; replace HB := Aside0.mk (below_step qpag hb); (try clear hb); (try clear hb2); (try clear hk); (try clear hi)) | ((with_reducible refine gate_callee (f := 68) rfl ?_); refine goesL_ (some 22) rfl rfl Tryd.func68 qg3m rfl #[.int .i64 a3] rfl qraq ?_; (with_reducible refine (gangwayref03_low.calls a3 t301 _ A10.out).mono ?_); rintro e w' ⟨rfl, ⟨nd, rfl⟩⟩; refine ⟨_, rfl, ?_⟩) | ((with_reducible refine gate_callee (f := 51) rfl ?_); refine goesL_ (some 24) rfl rfl Tryd.func51 qg3m rfl #[.int .u64 (IntKind.u64.wrap (t301)), .int .i64 2] rfl qraq ?_; (with_reducible refine (gangwayref01_Bytes.calls k (IntKind.u64.wrap (t301)) 2 t302 _ A11.out).mono ?_); rintro e w16 ⟨rfl, hb⟩; refine ⟨_, rfl, ?_⟩; replace HB := Aside0.mk (below_step qpag hb); (try clear hb); (try clear hb2); (try clear hk); (try clear hi)))
    go_ret
    exact ⟨qxu5, qpag⟩
   ·rw [if_neg c12] at H
    exact absurd H q6hr
  ·rw [if_neg c9] at H
   exact absurd H q6hr
 ·rw [if_neg c7] at H
  exact absurd H q6hr

end Go.Proofs.YtbkgaplldfilnaaDoor.P
