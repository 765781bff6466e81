-- slim
-- Written by wip/hprint.py (this session's program) through the kit's print program; hand contracts are marked 'by hand'.
import Derived.Test.YtbkgaplldfilnaaDoorAbb
import Derived.Test.YtbkgaplldfilnaaDoorRow
import Derived.Test.YtbkgaplldfilnaaDoorPx0
import Derived.Test.YtbkgaplldfilnaaDoorPx31
import Derived.Test.YtbkgaplldfilnaaDoorPx34
import Derived.Test.YtbkgaplldfilnaaDoorPx13
namespace Go.Proofs.YtbkgaplldfilnaaDoor.P
open Go.RowKit Go.Proofs.YtbkgaplldfilnaaDoorW.PrintWords Go.Proofs.YtbkgaplldfilnaaDoorW.PrintLast Go.Proofs.YtbkgaplldfilnaaDoorW.PrintMore
attribute [local go_sem] max2_int min2_int max_two min_two max_three min_three max_four min_four   -- for this text's walks alone
set_option linter.unusedVariables false
set_option linter.unusedSimpArgs false

/-! ### station_Make: function 11 -/
def station_Make.f (k : Nat) (a0 : Int) (a1 : Int) (a2_0 : Int) (a2_1 : Int) (a2_2 : Bool) (a2_3 : ByteArray) (a3 : Int) (a4 : Int) : Option (ByteArray × Int) := (udp_Build.f k a0 a1 a2_0 a2_1 a2_2 a2_3).bind fun bt475 => (if bt475.2 = 0 then ((inet_Build.f k 0 (Go.bits .and .i64 a3 65535) true false 0 64 17 a0 a1 bt475.1).bind fun bt478 => (if bt478.2 = 0 then (if (bt478.1.size : Int) > a4 then (some ((⟨#[]⟩ : ByteArray), 201)) else (some (bt478.1, 0))) else (some ((⟨#[]⟩ : ByteArray), 201)))) else (some ((⟨#[]⟩ : ByteArray), bt475.2)))
theorem station_Make.mono : ∀ a0 a1 a2 a3 a4 a5 a6 a7 k, LeO (station_Make.f k a0 a1 a2 a3 a4 a5 a6 a7) (station_Make.f (k + 1) a0 a1 a2 a3 a4 a5 a6 a7) := by
 intro a0 a1 a2 a3 a4 a5 a6 a7 k
 unfold station_Make.f
 repeat' first
   | (with_reducible exact inet_Build.mono _ _ _ _ _ _ _ _ _ _ _)
   | (with_reducible exact udp_Build.mono _ _ _ _ _ _ _)
   | (with_reducible exact LeO.refl _)
   | (with_reducible exact LeO.none _)
   | (with_reducible refine LeO.ite ?_ ?_)
   | (with_reducible refine LeO.bind ?_ (fun _ => ?_))
   | exact inet_Build.mono _ _ _ _ _ _ _ _ _ _ _
   | exact udp_Build.mono _ _ _ _ _ _ _
   | exact LeO.none _
   | refine LeO.ite ?_ ?_
   | refine LeO.bind ?_ (fun _ => ?_)
set_option maxRecDepth 100000 in
theorem z35_0 {p : Prop} (h : p := by
 simp only [Option.some.injEq, Prod.mk.injEq] at H
 obtain ⟨rfl, rfl⟩ := H
 go_enter Tryd.func11, Tryd.ntmps11
 go_wp2_with (first | ((with_reducible refine gate_st (ty := 64) rfl ?_); refine storeC10 rfl rfl rfl rfl rfl q0z2 qr2c qg3m rfl ?_) | ((with_reducible refine gate_ld (ty := 64) rfl ?_); (try (with_reducible refine gate_gd rfl ?_; refine gate_guard q8ju ?_; dsimp only)); refine load_st rfl rfl rfl q0z2 qr2c Tryd.underlying64 rfl qg3m ?_; (try simp only [Act.put, List.setIfInBounds_toArray, List.set_cons_zero, List.set_cons_succ])) | ((with_reducible refine gate_dst (N := 7) rfl ?_); (try (refine gate_guard qgcr ?_; dsimp only)); refine box_event qgcr (N := 7) qgcr (cs := #[.int .i64 a2_0, .int .i64 a2_1, .bool a2_2, .string a2_3]) (t := 31) qlto ?_; intro gbz0 hg wz1 hbox hb; have BK474 := Aside0.mk (hbox); have GEz0 := Aside0.mk ((qisx : w.heap.size ≤ gbz0)); replace HB := Aside0.mk (below_step qpag hb); clear hb hbox hg; obtain ⟨hczz2_0, hczz2_1, hczz2_2, hczz2_3⟩ := cells4 BK474.out; obtain ⟨hfzz2_0, hfzz2_1, hfzz2_2, hfzz2_3⟩ := frozen4 BK474.out) | ((with_reducible refine gate_callee (f := 23) rfl ?_); refine goesL_ (some 20) rfl rfl Tryd.func23 qg3m rfl #[.int .u32 a0, .int .u32 a1, .agg #[.int .i64 a2_0, .int .i64 a2_1, .bool a2_2, .string a2_3]] rfl qraq ?_; (with_reducible refine (udp_Build.calls k a0 a1 a2_0 a2_1 a2_2 a2_3 t475 t476 _ A6.out).mono ?_); rintro e wz3 ⟨rfl, hb⟩; refine ⟨_, rfl, ?_⟩; replace BK474 := Aside0.mk (blk_below (g := gbz0) qz02 hb); replace HB := Aside0.mk (below_step qmef hb); obtain ⟨hcyz4_474_0, hcyz4_474_1, hcyz4_474_2, hcyz4_474_3⟩ := cells4 BK474.out; (try clear hb); (try clear hb2); (try clear hk); (try clear hi)) | ((with_reducible refine gate_dst (N := 14) rfl ?_); (try (refine gate_guard qgcr ?_; dsimp only)); refine box_event qgcr (N := 14) qgcr (cs := #[.int .i64 0, .int .i64 0, .bool false, .bool false, .int .i64 0, .int .i64 0, .int .i64 0, .int .u32 0, .int .u32 0, .string (⟨#[]⟩ : ByteArray)]) (t := 64) qlto ?_; intro gbz5 hg wz6 hbox hb; have BK477 := Aside0.mk (hbox); have GEz5 := Aside0.mk ((by rw [hg]; exact (below_size qmef) : w.heap.size ≤ gbz5)); have NBz0_477 := Aside0.mk ((by rw [hg]; exact Nat.ne_of_lt (blk_lt (g := gbz0) qz02) : gbz0 ≠ gbz5)); have NBz5_474 := Aside0.mk ((by rw [hg]; exact Nat.ne_of_gt (blk_lt (g := gbz0) qz02) : gbz5 ≠ gbz0)); replace BK474 := Aside0.mk (blk_below (g := gbz0) qz02 hb); replace HB := Aside0.mk (below_step qmef hb); obtain ⟨hcyz7_474_0, hcyz7_474_1, hcyz7_474_2, hcyz7_474_3⟩ := cells4 BK474.out; clear hb hbox hg; have hnbz8 := NBz5_474.out; have hncz8 := NBz0_477.out; obtain ⟨hczz9_0, hczz9_1, hczz9_2, hczz9_3, hczz9_4, hczz9_5, hczz9_6, hczz9_7, hczz9_8, hczz9_9⟩ := cells10 BK477.out; obtain ⟨hfzz9_0, hfzz9_1, hfzz9_2, hfzz9_3, hfzz9_4, hfzz9_5, hfzz9_6, hfzz9_7, hfzz9_8, hfzz9_9⟩ := frozen10 BK477.out) | ((with_reducible refine gate_callee (f := 24) rfl ?_); refine goesL_ (some 34) rfl rfl Tryd.func24 qg3m rfl #[.agg #[.int .i64 0, .int .i64 (Go.bits .and .i64 a3 65535), .bool true, .bool false, .int .i64 0, .int .i64 64, .int .i64 17, .int .u32 a0, .int .u32 a1, .string t475]] rfl qraq ?_; (with_reducible refine (inet_Build.calls k 0 (Go.bits .and .i64 a3 65535) true false 0 64 17 a0 a1 t475 t478 t479 _ A8.out).mono ?_); rintro e wz10 ⟨rfl, hb⟩; refine ⟨_, rfl, ?_⟩; replace BK474 := Aside0.mk (blk_below (g := gbz0) (o := .cells #[.int .i64 a2_0, .int .i64 a2_1, .bool a2_2, .string a2_3] 31 (0, 0)) (by (with_reducible repeat (first | refine blk_drewN ?_ _ | refine blk_drew ?_ | refine blk_alloc ?_ _ | refine blk_far ?_ NBz0_477.out _)); exact BK474.out) hb); replace BK477 := Aside0.mk (blk_below (g := gbz5) (o := .cells #[.int .i64 0, .int .i64 (Go.bits .and .i64 a3 65535), .bool true, .bool false, .int .i64 0, .int .i64 64, .int .i64 17, .int .u32 a0, .int .u32 a1, .string t475] 64 (0, 0)) (by (with_reducible repeat (first | refine blk_drewN ?_ _ | refine blk_drew ?_ | refine blk_alloc ?_ _)); exact put10_0_10 (by (with_reducible repeat (first | refine blk_drewN ?_ _ | refine blk_drew ?_ | refine blk_alloc ?_ _)); exact BK477.out)) hb); replace HB := Aside0.mk (below_step qd7d hb); obtain ⟨hcyz11_474_0, hcyz11_474_1, hcyz11_474_2, hcyz11_474_3⟩ := cells4 BK474.out; (try clear hb); (try clear hb2); (try clear hk); (try clear hi)))
 go_ret2
 exact ⟨qxu5, qd7d⟩) : p := h
set_option maxHeartbeats 8000000 in
set_option maxRecDepth 100000 in
theorem station_Make.calls (k : Nat) (a0 : Int) (a1 : Int) (a2_0 : Int) (a2_1 : Int) (a2_2 : Bool) (a2_3 : ByteArray) (a3 : Int) (a4 : Int) (r1 : ByteArray) (r2 : Int) (w : World) (h : station_Make.f k a0 a1 a2_0 a2_1 a2_2 a2_3 a3 a4 = some (r1, r2)) :
  Calls Tryd.prog 11 #[.int .u32 a0, .int .u32 a1, .agg #[.int .i64 a2_0, .int .i64 a2_1, .bool a2_2, .string a2_3], .int .i64 a3, .int .i64 a4] w fun e w' => e = .returned (.tuple #[.string r1, .int .i64 r2]) ∧ Below w.heap.size w w' := by
 have hu31 := Tryd.underlying31
 have hu64 := Tryd.underlying64
 have HB := Aside0.mk (Below.refl w.heap.size w)
 have H : ((udp_Build.f k a0 a1 a2_0 a2_1 a2_2 a2_3).bind fun bt475 => (if bt475.2 = 0 then ((inet_Build.f k 0 (Go.bits .and .i64 a3 65535) true false 0 64 17 a0 a1 bt475.1).bind fun bt478 => (if bt478.2 = 0 then (if (bt478.1.size : Int) > a4 then (some ((⟨#[]⟩ : ByteArray), 201)) else (some (bt478.1, 0))) else (some ((⟨#[]⟩ : ByteArray), 201)))) else (some ((⟨#[]⟩ : ByteArray), bt475.2)))) = some (r1, r2) := h
 clear h
 replace H := Option.bind_eq_some_iff.mp H
 obtain ⟨⟨t475, t476⟩, A60, H⟩ := H
 try dsimp only at H
 have A6 := Aside0.mk A60
 clear A60
 by_cases c7 : t476 = 0
 ·rw [if_pos c7] at H
  have c7b0 : (t476 == 0) = true := beq_iff_eq.mpr c7
  have c7b1 : (t476 != 0) = false := bne_eq_false_iff_eq.mpr c7
  clear c7
  replace H := Option.bind_eq_some_iff.mp H
  obtain ⟨⟨t478, t479⟩, A80, H⟩ := H
  try dsimp only at H
  have A8 := Aside0.mk A80
  clear A80
  by_cases c9 : t479 = 0
  ·rw [if_pos c9] at H
   have c9b0 : (t479 == 0) = true := beq_iff_eq.mpr c9
   have c9b1 : (t479 != 0) = false := bne_eq_false_iff_eq.mpr c9
   clear c9
   by_cases c10 : (t478.size : Int) > a4
   ·rw [if_pos c10] at H
    have c10b0 : decide (a4 < (t478.size : Int)) = true := decide_eq_true c10
    clear c10
    exact z35_0
   ·rw [if_neg c10] at H
    have c10b0 : decide (a4 < (t478.size : Int)) = false := decide_eq_false c10
    clear c10
    exact z35_0
  ·rw [if_neg c9] at H
   have c9b0 : (t479 == 0) = false := beq_eq_false_iff_ne.mpr c9
   have c9b1 : (t479 != 0) = true := bne_iff_ne.mpr c9
   exact z35_0
 ·rw [if_neg c7] at H
  have c7b0 : (t476 == 0) = false := beq_eq_false_iff_ne.mpr c7
  have c7b1 : (t476 != 0) = true := bne_iff_ne.mpr c7
  simp only [Option.some.injEq, Prod.mk.injEq] at H
  obtain ⟨rfl, rfl⟩ := H
  go_enter Tryd.func11, Tryd.ntmps11
  go_wp2_with (first | ((with_reducible refine gate_st (ty := 64) rfl ?_); refine storeC10 rfl rfl rfl rfl rfl q0z2 qr2c qg3m rfl ?_) | ((with_reducible refine gate_ld (ty := 64) rfl ?_); (try (with_reducible refine gate_gd rfl ?_; refine gate_guard q8ju ?_; dsimp only)); refine load_st rfl rfl rfl q0z2 qr2c Tryd.underlying64 rfl qg3m ?_; (try simp only [Act.put, List.setIfInBounds_toArray, List.set_cons_zero, List.set_cons_succ])) | ((with_reducible refine gate_dst (N := 7) rfl ?_); (try (refine gate_guard qgcr ?_; dsimp only)); refine box_event qgcr (N := 7) qgcr (cs := #[.int .i64 a2_0, .int .i64 a2_1, .bool a2_2, .string a2_3]) (t := 31) qlto ?_; intro gb474 hg w32 hbox hb; have BK474 := Aside0.mk (hbox); have GE474 := Aside0.mk ((qisx : w.heap.size ≤ gb474)); replace HB := Aside0.mk (below_step qpag hb); clear hb hbox hg; obtain ⟨hcz33_0, hcz33_1, hcz33_2, hcz33_3⟩ := cells4 BK474.out; obtain ⟨hfz33_0, hfz33_1, hfz33_2, hfz33_3⟩ := frozen4 BK474.out) | ((with_reducible refine gate_callee (f := 23) rfl ?_); refine goesL_ (some 20) rfl rfl Tryd.func23 qg3m rfl #[.int .u32 a0, .int .u32 a1, .agg #[.int .i64 a2_0, .int .i64 a2_1, .bool a2_2, .string a2_3]] rfl qraq ?_; (with_reducible refine (udp_Build.calls k a0 a1 a2_0 a2_1 a2_2 a2_3 t475 t476 _ A6.out).mono ?_); rintro e w34 ⟨rfl, hb⟩; refine ⟨_, rfl, ?_⟩; replace BK474 := Aside0.mk (blk_below (g := gb474) qz02 hb); replace HB := Aside0.mk (below_step qjij hb); obtain ⟨hcy1_474_0, hcy1_474_1, hcy1_474_2, hcy1_474_3⟩ := cells4 BK474.out; (try clear hb); (try clear hb2); (try clear hk); (try clear hi)))
  go_ret2
  exact ⟨qxu5, qjij⟩
/-! ### gangwaylaw20_plain: function 22 -/
def gangwaylaw20_plain.f  : Option (Int × Int × Bool × ByteArray) := some (50000, 4789, true, (⟨#[104, 105]⟩ : ByteArray))
set_option maxHeartbeats 8000000 in
set_option maxRecDepth 100000 in
theorem gangwaylaw20_plain.calls  (r1 : Int) (r2 : Int) (r3 : Bool) (r4 : ByteArray) (w : World) (h : gangwaylaw20_plain.f  = some (r1, r2, r3, r4)) :
  Calls Tryd.prog 22 #[] w fun e w' => e = .returned (.agg #[.int .i64 r1, .int .i64 r2, .bool r3, .string r4]) ∧ Below w.heap.size w w' := by
 have hu31 := Tryd.underlying31
 have HB := Aside0.mk (Below.refl w.heap.size w)
 have H : (some (50000, 4789, true, (⟨#[104, 105]⟩ : ByteArray))) = some (r1, r2, r3, r4) := h
 clear h
 simp only [Option.some.injEq, Prod.mk.injEq] at H
 obtain ⟨rfl, rfl, rfl, rfl⟩ := H
 go_enter Tryd.func22, Tryd.ntmps22
 go_wp2_with (first | ((with_reducible refine gate_dst (N := 0) rfl ?_); refine box_event qgcr (N := 0) qgcr (cs := #[.int .i64 0, .int .i64 0, .bool false, .string (⟨#[]⟩ : ByteArray)]) (t := 31) qlto ?_; intro gb480 hg w1 hbox hb; have BK480 := Aside0.mk (hbox); have GE480 := Aside0.mk ((qisx : w.heap.size ≤ gb480)); replace HB := Aside0.mk (below_step qpag hb); clear hb hbox hg; obtain ⟨hcz2_0, hcz2_1, hcz2_2, hcz2_3⟩ := cells4 BK480.out; obtain ⟨hfz2_0, hfz2_1, hfz2_2, hfz2_3⟩ := frozen4 BK480.out))
 refine bodyPost_ret (results_cell_row rfl _ _ gb480 31 #[.int .i64 50000, .int .i64 4789, .bool true, .string (⟨#[104, 105]⟩ : ByteArray)] (0, 0) _ rfl (by (with_reducible repeat (first | refine blk_drewN ?_ _ | refine blk_drew ?_ | refine blk_alloc ?_ _)); exact put4_0_4 (by (with_reducible repeat (first | refine blk_drewN ?_ _ | refine blk_drew ?_ | refine blk_alloc ?_ _)); exact BK480.out)) Tryd.underlying31 rfl qg3m) rfl ?_
 exact ⟨qxu5, (by repeat (first | (with_reducible first | exact HB.out | apply below_alloc | apply pw_below_drewN | apply below_drew1 | refine below_set ?_ GE480.out) | exact HB.out))⟩
end Go.Proofs.YtbkgaplldfilnaaDoor.P
namespace Go.Proofs.YtbkgaplldfilnaaDoor.P
open Go.RowKit Go.Proofs.YtbkgaplldfilnaaDoorW.PrintWords Go.Proofs.YtbkgaplldfilnaaDoorW.PrintLast Go.Proofs.YtbkgaplldfilnaaDoorW.PrintMore
attribute [local go_sem] max2_int min2_int max_two min_two max_three min_three max_four min_four   -- for this text's walks alone
set_option linter.unusedVariables false
set_option linter.unusedSimpArgs false

/-! ### station_framed: function 13 -/
def station_framed.j0 : Nat → Bool → Int → Int → Bool → Int → Bool → Int → Int → ByteArray → Option (Option Int)
 | 0, _, _, _, _, _, _, _, _, _ => none
 | k + 1, x5, x103000, x103001, x103002, x103003, x103004, x103005, x103006, x103007 => if x5 = true then ((station_not.f (⟨#[102, 114, 97, 109, 101]⟩ : ByteArray) 2).bind fun t103 => (some t103)) else (if x103002 = true then ((station_not.f (⟨#[102, 114, 97, 109, 101]⟩ : ByteArray) 3).bind fun t104 => (some t104)) else ((addrs_Own.f x103001).bind fun t105 => (if t105 = true then (if x103006 = 2048 then (some none) else (if x103006 = 2054 then (some none) else ((station_not.f (⟨#[102, 114, 97, 109, 101]⟩ : ByteArray) 3).bind fun t106 => (some t106)))) else ((station_not.f (⟨#[102, 114, 97, 109, 101]⟩ : ByteArray) 3).bind fun t107 => (some t107)))))
def station_framed.f (k : Nat) (a0 : Int) (a1_0 : Int) (a1_1 : Int) (a1_2 : Bool) (a1_3 : Int) (a1_4 : Bool) (a1_5 : Int) (a1_6 : Int) (a1_7 : ByteArray) : Option (Option Int) := if a1_0 = a0 then (station_framed.j0 k false a1_0 a1_1 a1_2 a1_3 a1_4 a1_5 a1_6 a1_7) else (station_framed.j0 k (a1_0 != 281474976710655) a1_0 a1_1 a1_2 a1_3 a1_4 a1_5 a1_6 a1_7)
theorem station_framed.mono_l : ∀ k, (∀ y0 y1 y2 y3 y4 y5 y6 y7 y8, LeO (station_framed.j0 k y0 y1 y2 y3 y4 y5 y6 y7 y8) (station_framed.j0 (k + 1) y0 y1 y2 y3 y4 y5 y6 y7 y8))
 | 0 => fun _ _ _ _ _ _ _ _ _ r h => by simp [station_framed.j0] at h
 | k + 1 => by
  have ih0 := station_framed.mono_l k
  ·intro y0 y1 y2 y3 y4 y5 y6 y7 y8
   unfold station_framed.j0
   repeat' first
   | (with_reducible exact ih0 _ _ _ _ _ _ _ _ _)
   | (with_reducible exact LeO.refl _)
   | (with_reducible exact LeO.none _)
   | (with_reducible refine LeO.ite ?_ ?_)
   | (with_reducible refine LeO.bind ?_ (fun _ => ?_))
   | exact ih0 _ _ _ _ _ _ _ _ _
   | exact LeO.none _
   | refine LeO.ite ?_ ?_
   | refine LeO.bind ?_ (fun _ => ?_)
theorem station_framed.mono : ∀ a0 a1 a2 a3 a4 a5 a6 a7 a8 k, LeO (station_framed.f k a0 a1 a2 a3 a4 a5 a6 a7 a8) (station_framed.f (k + 1) a0 a1 a2 a3 a4 a5 a6 a7 a8) := by
 intro a0 a1 a2 a3 a4 a5 a6 a7 a8 k
 have ih0 := station_framed.mono_l k
 unfold station_framed.f
 repeat' first
   | (with_reducible exact ih0 _ _ _ _ _ _ _ _ _)
   | (with_reducible exact LeO.refl _)
   | (with_reducible exact LeO.none _)
   | (with_reducible refine LeO.ite ?_ ?_)
   | (with_reducible refine LeO.bind ?_ (fun _ => ?_))
   | exact ih0 _ _ _ _ _ _ _ _ _
   | exact LeO.none _
   | refine LeO.ite ?_ ?_
   | refine LeO.bind ?_ (fun _ => ?_)
theorem z4_0 {p : Prop} (h : p := by
 obtain rfl := Option.some.inj H
 obtain ⟨hczz0_0, hczz0_1, hczz0_2, hczz0_3, hczz0_4, hczz0_5, hczz0_6, hczz0_7⟩ := cells8 BK102.out
 obtain ⟨hfzz0_0, hfzz0_1, hfzz0_2, hfzz0_3, hfzz0_4, hfzz0_5, hfzz0_6, hfzz0_7⟩ := frozen8 BK102.out
 go_wp2_with (first | ((with_reducible refine gate_st (ty := 29) rfl ?_); refine storeC8 rfl rfl rfl rfl rfl qlj1 qr2c qg3m rfl ?_) | ((with_reducible refine gate_ld (ty := 29) rfl ?_); (try (with_reducible refine gate_gd rfl ?_; refine gate_guard q8ju ?_; dsimp only)); refine load_st rfl rfl rfl qlj1 qr2c Tryd.underlying29 rfl qg3m ?_; (try simp only [Act.put, List.setIfInBounds_toArray, List.set_cons_zero, List.set_cons_succ])) | (go_at_call 28; (with_reducible refine (addrs_Own.calls a1_1 true _ A13.out).mono ?_); rintro e w' ⟨rfl, ⟨nd, rfl⟩⟩))
 go_ret
 exact ⟨qxu5, q1hk⟩) : p := h
set_option maxHeartbeats 8000000 in
set_option maxRecDepth 100000 in
theorem station_framed.calls (k : Nat) (a0 : Int) (a1_0 : Int) (a1_1 : Int) (a1_2 : Bool) (a1_3 : Int) (a1_4 : Bool) (a1_5 : Int) (a1_6 : Int) (a1_7 : ByteArray) (r : Option Int) (w : World) (h : station_framed.f k a0 a1_0 a1_1 a1_2 a1_3 a1_4 a1_5 a1_6 a1_7 = some r) :
  Calls Tryd.prog 13 #[.int .u64 a0, .agg #[.int .u64 a1_0, .int .u64 a1_1, .bool a1_2, .int .i64 a1_3, .bool a1_4, .int .i64 a1_5, .int .i64 a1_6, .string a1_7]] w fun e w' => e = .returned (errW r) ∧ Below w.heap.size w w' := by
 have hu29 := Tryd.underlying29
 have HB := Aside0.mk (Below.refl w.heap.size w)
 have H : (if a1_0 = a0 then (station_framed.j0 k false a1_0 a1_1 a1_2 a1_3 a1_4 a1_5 a1_6 a1_7) else (station_framed.j0 k (a1_0 != 281474976710655) a1_0 a1_1 a1_2 a1_3 a1_4 a1_5 a1_6 a1_7)) = some r := h
 clear h
 have HC3 := Aside0.mk H
 clear H
 go_enter Tryd.func13, Tryd.ntmps13
 go_upto_region 1 with (first | ((with_reducible refine gate_st (ty := 29) rfl ?_); refine storeC8 rfl rfl rfl rfl rfl qlj1 qr2c qg3m rfl ?_) | ((with_reducible refine gate_ld (ty := 29) rfl ?_); (try (with_reducible refine gate_gd rfl ?_; refine gate_guard q8ju ?_; dsimp only)); refine load_st rfl rfl rfl qlj1 qr2c Tryd.underlying29 rfl qg3m ?_; (try simp only [Act.put, List.setIfInBounds_toArray, List.set_cons_zero, List.set_cons_succ])) | ((with_reducible refine gate_dst (N := 3) rfl ?_); refine box_event qgcr (N := 3) qgcr (cs := #[.int .u64 a1_0, .int .u64 a1_1, .bool a1_2, .int .i64 a1_3, .bool a1_4, .int .i64 a1_5, .int .i64 a1_6, .string a1_7]) (t := 29) qlto ?_; intro gb102 hg w4 hbox hb; have BK102 := Aside0.mk (hbox); have GE102 := Aside0.mk ((qisx : w.heap.size ≤ gb102)); replace HB := Aside0.mk (below_step qpag hb); clear hb hbox hg))
 (try simp only [Act.put, List.setIfInBounds_toArray, List.set_cons_zero, List.set_cons_succ])
 go_cut [5] (fun v5 wc => ∃ (kq : Nat) (x5_2 : Bool), v5 = .bool x5_2 ∧ Aside0 (station_framed.j0 kq x5_2 a1_0 a1_1 a1_2 a1_3 a1_4 a1_5 a1_6 a1_7 = some r) ∧ Aside0 (kq ≤ k) ∧ Aside0 (wc.heap[gb102]? = some (.cells #[.int .u64 a1_0, .int .u64 a1_1, .bool a1_2, .int .i64 a1_3, .bool a1_4, .int .i64 a1_5, .int .i64 a1_6, .string a1_7] 29 (0, 0))) ∧ Aside0 (Below w.heap.size w wc))
 case first =>
  have H := HC3.out
  clear HC3
  by_cases c5 : a1_0 = a0
  ·rw [if_pos c5] at H
   have c5b0 : (a1_0 == a0) = true := beq_iff_eq.mpr c5
   have c5b1 : (a1_0 != a0) = false := bne_eq_false_iff_eq.mpr c5
   clear c5
   (first | rw [c5b0] | (simp only [i64_w, i32_w]; rw [c5b0]) | skip)
   have H' := Aside0.mk H
   clear H
   obtain ⟨hcz6_0, hcz6_1, hcz6_2, hcz6_3, hcz6_4, hcz6_5, hcz6_6, hcz6_7⟩ := cells8 BK102.out
   obtain ⟨hfz6_0, hfz6_1, hfz6_2, hfz6_3, hfz6_4, hfz6_5, hfz6_6, hfz6_7⟩ := frozen8 BK102.out
   go_wp2_with (first | ((with_reducible refine gate_st (ty := 29) rfl ?_); refine storeC8 rfl rfl rfl rfl rfl qlj1 qr2c qg3m rfl ?_) | ((with_reducible refine gate_ld (ty := 29) rfl ?_); (try (with_reducible refine gate_gd rfl ?_; refine gate_guard q8ju ?_; dsimp only)); refine load_st rfl rfl rfl qlj1 qr2c Tryd.underlying29 rfl qg3m ?_; (try simp only [Act.put, List.setIfInBounds_toArray, List.set_cons_zero, List.set_cons_succ])) | go_in)
   go_meet
   case rel => exact ⟨_, (false), q8z4, H', ⟨qpfc⟩, ⟨qjss⟩, ⟨q1hk⟩⟩
  ·rw [if_neg c5] at H
   have c5b0 : (a1_0 == a0) = false := beq_eq_false_iff_ne.mpr c5
   have c5b1 : (a1_0 != a0) = true := bne_iff_ne.mpr c5
   (first | rw [c5b0] | (simp only [i64_w, i32_w]; rw [c5b0]) | skip)
   have H' := Aside0.mk H
   clear H
   obtain ⟨hcz7_0, hcz7_1, hcz7_2, hcz7_3, hcz7_4, hcz7_5, hcz7_6, hcz7_7⟩ := cells8 BK102.out
   obtain ⟨hfz7_0, hfz7_1, hfz7_2, hfz7_3, hfz7_4, hfz7_5, hfz7_6, hfz7_7⟩ := frozen8 BK102.out
   go_wp2_with (first | ((with_reducible refine gate_st (ty := 29) rfl ?_); refine storeC8 rfl rfl rfl rfl rfl qlj1 qr2c qg3m rfl ?_) | ((with_reducible refine gate_ld (ty := 29) rfl ?_); (try (with_reducible refine gate_gd rfl ?_; refine gate_guard q8ju ?_; dsimp only)); refine load_st rfl rfl rfl qlj1 qr2c Tryd.underlying29 rfl qg3m ?_; (try simp only [Act.put, List.setIfInBounds_toArray, List.set_cons_zero, List.set_cons_succ])) | go_in)
   go_meet
   case rel => exact ⟨_, ((a1_0 != 281474976710655)), q8z4, H', ⟨qpfc⟩, ⟨qjss⟩, ⟨q1hk⟩⟩
 case rest =>
  clear HC3
  try clear c1
  try clear p2
  try clear c5
  try clear c5b0
  try clear c5b1
  obtain ⟨kq, x5_2, rfl, HA, HJ2, BK102, HB⟩ := hcut
  cases kq with
  | zero => exact absurd HA.out (by simp [station_framed.j0])
  | succ kj2 =>
   have H := HA.out
   clear HA
   simp only [station_framed.j0] at H
   by_cases c8 : x5_2 = true
   ·subst c8
    rw [if_pos rfl] at H
    replace H := Option.bind_eq_some_iff.mp H
    obtain ⟨t103, A90, H⟩ := H
    try dsimp only at H
    have A9 := Aside0.mk A90
    clear A90
    obtain rfl := Option.some.inj H
    go_wp2_with (first | ((with_reducible refine gate_st (ty := 29) rfl ?_); refine storeC8 rfl rfl rfl rfl rfl qlj1 qr2c qg3m rfl ?_) | ((with_reducible refine gate_ld (ty := 29) rfl ?_); (try (with_reducible refine gate_gd rfl ?_; refine gate_guard q8ju ?_; dsimp only)); refine load_st rfl rfl rfl qlj1 qr2c Tryd.underlying29 rfl qg3m ?_; (try simp only [Act.put, List.setIfInBounds_toArray, List.set_cons_zero, List.set_cons_succ])) | ((with_reducible refine gate_callee (f := 27) rfl ?_); refine goesL_ (some 15) rfl rfl Tryd.func27 qg3m rfl #[.string (⟨#[102, 114, 97, 109, 101]⟩ : ByteArray), .int .i64 2] rfl qraq ?_; (with_reducible refine (station_not.calls (⟨#[102, 114, 97, 109, 101]⟩ : ByteArray) 2 t103 _ A9.out).mono ?_); rintro e w' ⟨rfl, ⟨nd, rfl⟩⟩; refine ⟨_, rfl, ?_⟩; (try simp only [errW_none, errW_some])))
    go_ret
    exact ⟨qxu5, q1hk⟩
   ·replace c8 := Bool.eq_false_iff.mpr c8
    subst c8
    rw [if_neg (show ¬ (false = true) by decide)] at H
    by_cases c10 : a1_2 = true
    ·subst c10
     rw [if_pos rfl] at H
     replace H := Option.bind_eq_some_iff.mp H
     obtain ⟨t104, A110, H⟩ := H
     try dsimp only at H
     have A11 := Aside0.mk A110
     clear A110
     obtain rfl := Option.some.inj H
     obtain ⟨hcz12_0, hcz12_1, hcz12_2, hcz12_3, hcz12_4, hcz12_5, hcz12_6, hcz12_7⟩ := cells8 BK102.out
     obtain ⟨hfz12_0, hfz12_1, hfz12_2, hfz12_3, hfz12_4, hfz12_5, hfz12_6, hfz12_7⟩ := frozen8 BK102.out
     go_wp2_with (first | ((with_reducible refine gate_st (ty := 29) rfl ?_); refine storeC8 rfl rfl rfl rfl rfl qlj1 qr2c qg3m rfl ?_) | ((with_reducible refine gate_ld (ty := 29) rfl ?_); (try (with_reducible refine gate_gd rfl ?_; refine gate_guard q8ju ?_; dsimp only)); refine load_st rfl rfl rfl qlj1 qr2c Tryd.underlying29 rfl qg3m ?_; (try simp only [Act.put, List.setIfInBounds_toArray, List.set_cons_zero, List.set_cons_succ])) | ((with_reducible refine gate_callee (f := 27) rfl ?_); refine goesL_ (some 36) rfl rfl Tryd.func27 qg3m rfl #[.string (⟨#[102, 114, 97, 109, 101]⟩ : ByteArray), .int .i64 3] rfl qraq ?_; (with_reducible refine (station_not.calls (⟨#[102, 114, 97, 109, 101]⟩ : ByteArray) 3 t104 _ A11.out).mono ?_); rintro e w' ⟨rfl, ⟨nd, rfl⟩⟩; refine ⟨_, rfl, ?_⟩; (try simp only [errW_none, errW_some])))
     go_ret
     exact ⟨qxu5, q1hk⟩
    ·replace c10 := Bool.eq_false_iff.mpr c10
     subst c10
     rw [if_neg (show ¬ (false = true) by decide)] at H
     replace H := Option.bind_eq_some_iff.mp H
     obtain ⟨t105, A130, H⟩ := H
     try dsimp only at H
     have A13 := Aside0.mk A130
     clear A130
     by_cases c14 : t105 = true
     ·subst c14
      rw [if_pos rfl] at H
      by_cases c15 : a1_6 = 2048
      ·rw [if_pos c15] at H
       have c15b0 : (a1_6 == 2048) = true := beq_iff_eq.mpr c15
       have c15b1 : (a1_6 != 2048) = false := bne_eq_false_iff_eq.mpr c15
       clear c15
       exact z4_0
      ·rw [if_neg c15] at H
       have c15b0 : (a1_6 == 2048) = false := beq_eq_false_iff_ne.mpr c15
       have c15b1 : (a1_6 != 2048) = true := bne_iff_ne.mpr c15
       by_cases c17 : a1_6 = 2054
       ·rw [if_pos c17] at H
        have c17b0 : (a1_6 == 2054) = true := beq_iff_eq.mpr c17
        have c17b1 : (a1_6 != 2054) = false := bne_eq_false_iff_eq.mpr c17
        clear c17
        exact z4_0
       ·rw [if_neg c17] at H
        have c17b0 : (a1_6 == 2054) = false := beq_eq_false_iff_ne.mpr c17
        have c17b1 : (a1_6 != 2054) = true := bne_iff_ne.mpr c17
        replace H := Option.bind_eq_some_iff.mp H
        obtain ⟨t106, A190, H⟩ := H
        try dsimp only at H
        have A19 := Aside0.mk A190
        clear A190
        obtain rfl := Option.some.inj H
        obtain ⟨hcz20_0, hcz20_1, hcz20_2, hcz20_3, hcz20_4, hcz20_5, hcz20_6, hcz20_7⟩ := cells8 BK102.out
        obtain ⟨hfz20_0, hfz20_1, hfz20_2, hfz20_3, hfz20_4, hfz20_5, hfz20_6, hfz20_7⟩ := frozen8 BK102.out
        go_wp2_with (first | ((with_reducible refine gate_st (ty := 29) rfl ?_); refine storeC8 rfl rfl rfl rfl rfl qlj1 qr2c qg3m rfl ?_) | ((with_reducible refine gate_ld (ty := 29) rfl ?_); (try (with_reducible refine gate_gd rfl ?_; refine gate_guard q8ju ?_; dsimp only)); refine load_st rfl rfl rfl qlj1 qr2c Tryd.underlying29 rfl qg3m ?_; (try simp only [Act.put, List.setIfInBounds_toArray, List.set_cons_zero, List.set_cons_succ])) | (go_at_call 28; (with_reducible refine (addrs_Own.calls a1_1 true _ A13.out).mono ?_); rintro e w' ⟨rfl, ⟨nd, rfl⟩⟩) | ((with_reducible refine gate_callee (f := 27) rfl ?_); refine goesL_ (some 36) rfl rfl Tryd.func27 qg3m rfl #[.string (⟨#[102, 114, 97, 109, 101]⟩ : ByteArray), .int .i64 3] rfl qraq ?_; (with_reducible refine (station_not.calls (⟨#[102, 114, 97, 109, 101]⟩ : ByteArray) 3 t106 _ A19.out).mono ?_); rintro e w' ⟨rfl, ⟨nd, rfl⟩⟩; refine ⟨_, rfl, ?_⟩; (try simp only [errW_none, errW_some])))
        go_ret
        exact ⟨qxu5, q1hk⟩
     ·replace c14 := Bool.eq_false_iff.mpr c14
      subst c14
      rw [if_neg (show ¬ (false = true) by decide)] at H
      replace H := Option.bind_eq_some_iff.mp H
      obtain ⟨t107, A210, H⟩ := H
      try dsimp only at H
      have A21 := Aside0.mk A210
      clear A210
      obtain rfl := Option.some.inj H
      obtain ⟨hcz22_0, hcz22_1, hcz22_2, hcz22_3, hcz22_4, hcz22_5, hcz22_6, hcz22_7⟩ := cells8 BK102.out
      obtain ⟨hfz22_0, hfz22_1, hfz22_2, hfz22_3, hfz22_4, hfz22_5, hfz22_6, hfz22_7⟩ := frozen8 BK102.out
      go_wp2_with (first | ((with_reducible refine gate_st (ty := 29) rfl ?_); refine storeC8 rfl rfl rfl rfl rfl qlj1 qr2c qg3m rfl ?_) | ((with_reducible refine gate_ld (ty := 29) rfl ?_); (try (with_reducible refine gate_gd rfl ?_; refine gate_guard q8ju ?_; dsimp only)); refine load_st rfl rfl rfl qlj1 qr2c Tryd.underlying29 rfl qg3m ?_; (try simp only [Act.put, List.setIfInBounds_toArray, List.set_cons_zero, List.set_cons_succ])) | (go_at_call 28; (with_reducible refine (addrs_Own.calls a1_1 false _ A13.out).mono ?_); rintro e w' ⟨rfl, ⟨nd, rfl⟩⟩) | ((with_reducible refine gate_callee (f := 27) rfl ?_); refine goesL_ (some 36) rfl rfl Tryd.func27 qg3m rfl #[.string (⟨#[102, 114, 97, 109, 101]⟩ : ByteArray), .int .i64 3] rfl qraq ?_; (with_reducible refine (station_not.calls (⟨#[102, 114, 97, 109, 101]⟩ : ByteArray) 3 t107 _ A21.out).mono ?_); rintro e w' ⟨rfl, ⟨nd, rfl⟩⟩; refine ⟨_, rfl, ?_⟩; (try simp only [errW_none, errW_some])))
      go_ret
      exact ⟨qxu5, q1hk⟩
end Go.Proofs.YtbkgaplldfilnaaDoor.P
namespace Go.Proofs.YtbkgaplldfilnaaDoor.P
open Go.RowKit Go.Proofs.YtbkgaplldfilnaaDoorW.PrintWords Go.Proofs.YtbkgaplldfilnaaDoorW.PrintLast Go.Proofs.YtbkgaplldfilnaaDoorW.PrintMore
attribute [local go_sem] max2_int min2_int max_two min_two max_three min_three max_four min_four   -- for this text's walks alone
set_option linter.unusedVariables false
set_option linter.unusedSimpArgs false

/-! ### station_datagram: function 31 -/
def station_datagram.j0 : Nat → Bool → Int → Int → Bool → ByteArray → Option (Int × Int × Bool × ByteArray × Option Int)
 | 0, _, _, _, _, _ => none
 | k + 1, x16, x211000, x211001, x211002, x211003 => if x16 = true then ((station_not.f (⟨#[100, 97, 116, 97, 103, 114, 97, 109]⟩ : ByteArray) 6).bind fun t211 => (some (x211000, x211001, x211002, x211003, t211))) else (if x211001 = 4789 then (some (x211000, x211001, x211002, x211003, none)) else ((station_not.f (⟨#[100, 97, 116, 97, 103, 114, 97, 109]⟩ : ByteArray) 7).bind fun t212 => (some (x211000, x211001, x211002, x211003, t212))))
def station_datagram.f (k : Nat) (a0_0 : Int) (a0_1 : Int) (a0_2 : Bool) (a0_3 : Bool) (a0_4 : Int) (a0_5 : Int) (a0_6 : Int) (a0_7 : Int) (a0_8 : Int) (a0_9 : ByteArray) : Option (Int × Int × Bool × ByteArray × Option Int) := (udp_Parse.f k a0_7 a0_8 a0_9).bind fun bt205 => (if a0_6 = 17 then (station_datagram.j0 k (bt205.2.2.2.2 != 0) bt205.1 bt205.2.1 bt205.2.2.1 bt205.2.2.2.1) else (station_datagram.j0 k true bt205.1 bt205.2.1 bt205.2.2.1 bt205.2.2.2.1))
theorem station_datagram.mono_l : ∀ k, (∀ y0 y1 y2 y3 y4, LeO (station_datagram.j0 k y0 y1 y2 y3 y4) (station_datagram.j0 (k + 1) y0 y1 y2 y3 y4))
 | 0 => fun _ _ _ _ _ r h => by simp [station_datagram.j0] at h
 | k + 1 => by
  have ih0 := station_datagram.mono_l k
  ·intro y0 y1 y2 y3 y4
   unfold station_datagram.j0
   repeat' first
   | (with_reducible exact ih0 _ _ _ _ _)
   | (with_reducible exact udp_Parse.mono _ _ _ _)
   | (with_reducible exact LeO.refl _)
   | (with_reducible exact LeO.none _)
   | (with_reducible refine LeO.ite ?_ ?_)
   | (with_reducible refine LeO.bind ?_ (fun _ => ?_))
   | exact ih0 _ _ _ _ _
   | exact udp_Parse.mono _ _ _ _
   | exact LeO.none _
   | refine LeO.ite ?_ ?_
   | refine LeO.bind ?_ (fun _ => ?_)
theorem station_datagram.mono : ∀ a0 a1 a2 a3 a4 a5 a6 a7 a8 a9 k, LeO (station_datagram.f k a0 a1 a2 a3 a4 a5 a6 a7 a8 a9) (station_datagram.f (k + 1) a0 a1 a2 a3 a4 a5 a6 a7 a8 a9) := by
 intro a0 a1 a2 a3 a4 a5 a6 a7 a8 a9 k
 have ih0 := station_datagram.mono_l k
 unfold station_datagram.f
 repeat' first
   | (with_reducible exact ih0 _ _ _ _ _)
   | (with_reducible exact udp_Parse.mono _ _ _ _)
   | (with_reducible exact LeO.refl _)
   | (with_reducible exact LeO.none _)
   | (with_reducible refine LeO.ite ?_ ?_)
   | (with_reducible refine LeO.bind ?_ (fun _ => ?_))
   | exact ih0 _ _ _ _ _
   | exact udp_Parse.mono _ _ _ _
   | exact LeO.none _
   | refine LeO.ite ?_ ?_
   | refine LeO.bind ?_ (fun _ => ?_)
theorem z19_0 {p : Prop} (h : p := by
 simp only [Act.put, List.setIfInBounds_toArray, List.set_cons_zero, List.set_cons_succ, i64_w, i32_w]
 rfl) : p := h
set_option maxHeartbeats 8000000 in
set_option maxRecDepth 100000 in
theorem station_datagram.calls (k : Nat) (a0_0 : Int) (a0_1 : Int) (a0_2 : Bool) (a0_3 : Bool) (a0_4 : Int) (a0_5 : Int) (a0_6 : Int) (a0_7 : Int) (a0_8 : Int) (a0_9 : ByteArray) (r1 : Int) (r2 : Int) (r3 : Bool) (r4 : ByteArray) (r5 : Option Int) (w : World) (h : station_datagram.f k a0_0 a0_1 a0_2 a0_3 a0_4 a0_5 a0_6 a0_7 a0_8 a0_9 = some (r1, r2, r3, r4, r5)) :
  Calls Tryd.prog 31 #[.agg #[.int .i64 a0_0, .int .i64 a0_1, .bool a0_2, .bool a0_3, .int .i64 a0_4, .int .i64 a0_5, .int .i64 a0_6, .int .u32 a0_7, .int .u32 a0_8, .string a0_9]] w fun e w' => e = .returned (.tuple #[.agg #[.int .i64 r1, .int .i64 r2, .bool r3, .string r4], errW r5]) ∧ Below w.heap.size w w' := by
 have hu64 := Tryd.underlying64
 have hu31 := Tryd.underlying31
 have HB := Aside0.mk (Below.refl w.heap.size w)
 have H : ((udp_Parse.f k a0_7 a0_8 a0_9).bind fun bt205 => (if a0_6 = 17 then (station_datagram.j0 k (bt205.2.2.2.2 != 0) bt205.1 bt205.2.1 bt205.2.2.1 bt205.2.2.2.1) else (station_datagram.j0 k true bt205.1 bt205.2.1 bt205.2.2.1 bt205.2.2.2.1))) = some (r1, r2, r3, r4, r5) := h
 clear h
 replace H := Option.bind_eq_some_iff.mp H
 obtain ⟨⟨t205, t206, t207, t208, t209⟩, A20, H⟩ := H
 try dsimp only at H
 have A2 := Aside0.mk A20
 clear A20
 have HC3 := Aside0.mk H
 clear H
 go_enter Tryd.func31, Tryd.ntmps31
 go_upto_region 2 with (first | ((with_reducible refine gate_st (ty := 64) rfl ?_); refine storeC10 rfl rfl rfl rfl rfl q0kn qr2c qg3m rfl ?_) | ((with_reducible refine gate_ld (ty := 64) rfl ?_); (try (with_reducible refine gate_gd rfl ?_; refine gate_guard q8ju ?_; dsimp only)); refine load_st rfl rfl rfl q0kn qr2c Tryd.underlying64 rfl qg3m ?_; (try simp only [Act.put, List.setIfInBounds_toArray, List.set_cons_zero, List.set_cons_succ])) | ((with_reducible refine gate_dst (N := 1) rfl ?_); refine box_event qgcr (N := 1) qgcr (cs := #[.int .i64 a0_0, .int .i64 a0_1, .bool a0_2, .bool a0_3, .int .i64 a0_4, .int .i64 a0_5, .int .i64 a0_6, .int .u32 a0_7, .int .u32 a0_8, .string a0_9]) (t := 64) qlto ?_; intro gb203 hg w4 hbox hb; have BK203 := Aside0.mk (hbox); have GE203 := Aside0.mk ((qisx : w.heap.size ≤ gb203)); replace HB := Aside0.mk (below_step qpag hb); clear hb hbox hg) | ((with_reducible refine gate_dst (N := 2) rfl ?_); refine box_event qgcr (N := 2) qgcr (cs := #[.int .i64 0, .int .i64 0, .bool false, .string (⟨#[]⟩ : ByteArray)]) (t := 31) qlto ?_; intro gb204 hg w5 hbox hb; have BK204 := Aside0.mk (hbox); have GE204 := Aside0.mk ((by rw [hg]; exact (below_size qh3g) : w.heap.size ≤ gb204)); have NB203_204 := Aside0.mk ((by rw [hg]; exact Nat.ne_of_lt (blk_lt (g := gb203) qy0m) : gb203 ≠ gb204)); have NB204_203 := Aside0.mk ((by rw [hg]; exact Nat.ne_of_gt (blk_lt (g := gb203) qy0m) : gb204 ≠ gb203)); replace BK203 := Aside0.mk (blk_below (g := gb203) qy0m hb); replace HB := Aside0.mk (below_step qh3g hb); clear hb hbox hg; have hnb6 := NB203_204.out; have hnc6 := NB204_203.out; obtain ⟨hcz7_0, hcz7_1, hcz7_2, hcz7_3, hcz7_4, hcz7_5, hcz7_6, hcz7_7, hcz7_8, hcz7_9⟩ := cells10 BK203.out; obtain ⟨hfz7_0, hfz7_1, hfz7_2, hfz7_3, hfz7_4, hfz7_5, hfz7_6, hfz7_7, hfz7_8, hfz7_9⟩ := frozen10 BK203.out) | ((with_reducible refine gate_callee (f := 61) rfl ?_); refine goesL_ (some 13) rfl rfl Tryd.func61 qg3m rfl #[.int .u32 a0_7, .int .u32 a0_8, .string a0_9] rfl qraq ?_; (with_reducible refine (udp_Parse.calls k a0_7 a0_8 a0_9 t205 t206 t207 t208 t209 _ A2.out).mono ?_); rintro e w8 ⟨rfl, hb⟩; refine ⟨_, rfl, ?_⟩; replace BK203 := Aside0.mk (blk_below (g := gb203) qy0m hb); replace BK204 := Aside0.mk (blk_below (g := gb204) qe0h hb); replace HB := Aside0.mk (below_step qrj9 hb); (try clear hb); (try clear hb2); (try clear hk); (try clear hi)) | ((with_reducible refine gate_dst (N := 4) rfl ?_); refine box_event qgcr (N := 4) qgcr (cs := #[.int .i64 0, .int .i64 0, .bool false, .string (⟨#[]⟩ : ByteArray)]) (t := 31) qlto ?_; intro gb210 hg w9 hbox hb; have BK210 := Aside0.mk (hbox); have GE210 := Aside0.mk ((by rw [hg]; exact (below_size qrj9) : w.heap.size ≤ gb210)); have NB203_210 := Aside0.mk ((by rw [hg]; exact Nat.ne_of_lt (blk_lt (g := gb203) qy0m) : gb203 ≠ gb210)); have NB210_203 := Aside0.mk ((by rw [hg]; exact Nat.ne_of_gt (blk_lt (g := gb203) qy0m) : gb210 ≠ gb203)); have NB204_210 := Aside0.mk ((by rw [hg]; exact Nat.ne_of_lt (blk_lt (g := gb204) qe0h) : gb204 ≠ gb210)); have NB210_204 := Aside0.mk ((by rw [hg]; exact Nat.ne_of_gt (blk_lt (g := gb204) qe0h) : gb210 ≠ gb204)); replace BK203 := Aside0.mk (blk_below (g := gb203) qy0m hb); replace BK204 := Aside0.mk (blk_below (g := gb204) qe0h hb); replace HB := Aside0.mk (below_step qrj9 hb); clear hb hbox hg; have hnb10 := NB210_203.out; have hnc10 := NB203_210.out; have hnb11 := NB210_204.out; have hnc11 := NB204_210.out; obtain ⟨hcz12_0, hcz12_1, hcz12_2, hcz12_3⟩ := cells4 BK210.out; obtain ⟨hfz12_0, hfz12_1, hfz12_2, hfz12_3⟩ := frozen4 BK210.out))
 (try simp only [Act.put, List.setIfInBounds_toArray, List.set_cons_zero, List.set_cons_succ])
 go_cut [16] (fun v16 wc => ∃ (kq : Nat) (x16_2 : Bool), v16 = .bool x16_2 ∧ Aside0 (station_datagram.j0 kq x16_2 t205 t206 t207 t208 = some (r1, r2, r3, r4, r5)) ∧ Aside0 (kq ≤ k) ∧ Aside0 (wc.heap[gb203]? = some (.cells #[.int .i64 a0_0, .int .i64 a0_1, .bool a0_2, .bool a0_3, .int .i64 a0_4, .int .i64 a0_5, .int .i64 a0_6, .int .u32 a0_7, .int .u32 a0_8, .string a0_9] 64 (0, 0))) ∧ Aside0 (wc.heap[gb204]? = some (.cells #[.int .i64 0, .int .i64 0, .bool false, .string (⟨#[]⟩ : ByteArray)] 31 (0, 0))) ∧ Aside0 (wc.heap[gb210]? = some (.cells #[.int .i64 t205, .int .i64 t206, .bool t207, .string t208] 31 (0, 0))) ∧ Aside0 (Below w.heap.size w wc))
 case first =>
  have H := HC3.out
  clear HC3
  by_cases c13 : a0_6 = 17
  ·rw [if_pos c13] at H
   have c13b0 : (a0_6 == 17) = true := beq_iff_eq.mpr c13
   have c13b1 : (a0_6 != 17) = false := bne_eq_false_iff_eq.mpr c13
   clear c13
   (first | rw [c13b0] | (simp only [i64_w, i32_w]; rw [c13b0]) | skip)
   have H' := Aside0.mk H
   clear H
   have hnb14 := NB203_204.out
   have hnc14 := NB204_203.out
   have hnb15 := NB203_210.out
   have hnc15 := NB210_203.out
   obtain ⟨hcz16_0, hcz16_1, hcz16_2, hcz16_3, hcz16_4, hcz16_5, hcz16_6, hcz16_7, hcz16_8, hcz16_9⟩ := cells10 BK203.out
   obtain ⟨hfz16_0, hfz16_1, hfz16_2, hfz16_3, hfz16_4, hfz16_5, hfz16_6, hfz16_7, hfz16_8, hfz16_9⟩ := frozen10 BK203.out
   go_wp2_with (first | ((with_reducible refine gate_st (ty := 64) rfl ?_); refine storeC10 rfl rfl rfl rfl rfl q0kn qr2c qg3m rfl ?_) | ((with_reducible refine gate_ld (ty := 64) rfl ?_); (try (with_reducible refine gate_gd rfl ?_; refine gate_guard q8ju ?_; dsimp only)); refine load_st rfl rfl rfl q0kn qr2c Tryd.underlying64 rfl qg3m ?_; (try simp only [Act.put, List.setIfInBounds_toArray, List.set_cons_zero, List.set_cons_succ])) | go_in)
   go_meet
   case rel => exact ⟨_, ((t209 != 0)), q8z4, H', ⟨qpfc⟩, ⟨qmji⟩, ⟨q51m⟩, ⟨q2bt⟩, ⟨qn99⟩⟩
  ·rw [if_neg c13] at H
   have c13b0 : (a0_6 == 17) = false := beq_eq_false_iff_ne.mpr c13
   have c13b1 : (a0_6 != 17) = true := bne_iff_ne.mpr c13
   (first | rw [c13b0] | (simp only [i64_w, i32_w]; rw [c13b0]) | skip)
   have H' := Aside0.mk H
   clear H
   have hnb17 := NB203_204.out
   have hnc17 := NB204_203.out
   have hnb18 := NB203_210.out
   have hnc18 := NB210_203.out
   obtain ⟨hcz19_0, hcz19_1, hcz19_2, hcz19_3, hcz19_4, hcz19_5, hcz19_6, hcz19_7, hcz19_8, hcz19_9⟩ := cells10 BK203.out
   obtain ⟨hfz19_0, hfz19_1, hfz19_2, hfz19_3, hfz19_4, hfz19_5, hfz19_6, hfz19_7, hfz19_8, hfz19_9⟩ := frozen10 BK203.out
   go_wp2_with (first | ((with_reducible refine gate_st (ty := 64) rfl ?_); refine storeC10 rfl rfl rfl rfl rfl q0kn qr2c qg3m rfl ?_) | ((with_reducible refine gate_ld (ty := 64) rfl ?_); (try (with_reducible refine gate_gd rfl ?_; refine gate_guard q8ju ?_; dsimp only)); refine load_st rfl rfl rfl q0kn qr2c Tryd.underlying64 rfl qg3m ?_; (try simp only [Act.put, List.setIfInBounds_toArray, List.set_cons_zero, List.set_cons_succ])) | go_in)
   go_meet
   case rel => exact ⟨_, (true), q8z4, H', ⟨qpfc⟩, ⟨qmji⟩, ⟨q51m⟩, ⟨q2bt⟩, ⟨qn99⟩⟩
 case rest =>
  clear HC3
  try clear c1
  try clear p2
  try clear c3
  try clear c6
  try clear c10
  try clear c11
  try clear c13
  try clear c13b0
  try clear c13b1
  try clear c14
  try clear c15
  try clear c17
  try clear c18
  obtain ⟨kq, x16_2, rfl, HA, HJ2, BK203, BK204, BK210, HB⟩ := hcut
  cases kq with
  | zero => exact absurd HA.out (by simp [station_datagram.j0])
  | succ kj2 =>
   have H := HA.out
   clear HA
   simp only [station_datagram.j0] at H
   by_cases c20 : x16_2 = true
   ·subst c20
    rw [if_pos rfl] at H
    replace H := Option.bind_eq_some_iff.mp H
    obtain ⟨t211, A210, H⟩ := H
    try dsimp only at H
    have A21 := Aside0.mk A210
    clear A210
    simp only [Option.some.injEq, Prod.mk.injEq] at H
    obtain ⟨rfl, rfl, rfl, rfl, rfl⟩ := H
    try go_wp2_with (first | ((with_reducible refine gate_st (ty := 64) rfl ?_); refine storeC10 rfl rfl rfl rfl rfl q0kn qr2c qg3m rfl ?_) | ((with_reducible refine gate_ld (ty := 64) rfl ?_); (try (with_reducible refine gate_gd rfl ?_; refine gate_guard q8ju ?_; dsimp only)); refine load_st rfl rfl rfl q0kn qr2c Tryd.underlying64 rfl qg3m ?_; (try simp only [Act.put, List.setIfInBounds_toArray, List.set_cons_zero, List.set_cons_succ])) | go_in)
    replace BK203 := Aside0.mk (blk_drew BK203.out)
    replace BK204 := Aside0.mk (blk_drew BK204.out)
    replace BK210 := Aside0.mk (blk_drew BK210.out)
    replace HB := Aside0.mk (below_drew1 HB.out)
    refine start_ (n := 4) (S := fun w' => w'.cell? ⟨gb210, 0, none⟩ = some (.int .i64 t205) ∧ w'.cell? ⟨gb210, 1, none⟩ = some (.int .i64 t206) ∧ w'.cell? ⟨gb210, 2, none⟩ = some (.bool t207) ∧ w'.cell? ⟨gb210, 3, none⟩ = some (.string t208)) (ds := []) #[false, false, false, false] qg3m rfl rfl ⟨(blk_cell BK210.out 0).trans rfl, (blk_cell BK210.out 1).trans rfl, (blk_cell BK210.out 2).trans rfl, (blk_cell BK210.out 3).trans rfl⟩ (fun hHeld => ?_)
    generalize wc.drew = w22 at BK203 BK204 BK210 HB hHeld ⊢
    refine take_ (i := 0) (N := some 24) (v := ?_) (a' := ?_) #[true, false, false, false] rfl rfl qg3m (fun _ _ _ h => h) (Or.inl ⟨qgcr, ?_⟩) hHeld ?_ ?_
    rotate_left
    ·rintro w' ⟨s0, s1, s2, s3⟩
     go_simp
     with_reducible rfl
    rotate_left
    ·exact z19_0
    refine one_ (i := 1) (N := some 25) #[true, true, false, false] rfl rfl qg3m qomw (fun K hK => ?_)
    refine goes_ Tryd.func27 qg3m rfl #[.string (⟨#[100, 97, 116, 97, 103, 114, 97, 109]⟩ : ByteArray), .int .i64 6] qlo1 rfl rfl qraq ?_
    with_reducible refine (station_not.calls (⟨#[100, 97, 116, 97, 103, 114, 97, 109]⟩ : ByteArray) 6 t211 _ A21.out).mono ?_
    rintro e w' ⟨rfl, ⟨nd, rfl⟩⟩
    refine ⟨_, rfl, ?_⟩
    (try simp only [errW_none, errW_some])
    refine hK.out _ _ qwla (fun hHeld => ?_)
    clear hK K
    refine norm_ (a' := ?_) ?_ ?_
    rotate_left
    ·show Act.put _ (some 25) _ = _
     simp only [Act.put, List.setIfInBounds_toArray, List.set_cons_zero, List.set_cons_succ, i64_w, i32_w]
     rfl
    refine one_ (i := 2) (N := none) #[true, true, true, false] rfl rfl qg3m qomw (fun K hK => ?_)
    have hs23 : w22.cell? ⟨gb204, 0, none⟩ = some (.int .i64 0) := (blk_cell BK204.out 0).trans rfl
    have hfs23 := blk_frozen BK204.out 0
    have hns23_0 := NB203_204.out
    have hns23_2 := NB210_204.out
    have hms23_0 := NB204_203.out
    have hms23_2 := NB204_210.out
    have hs24 : w22.cell? ⟨gb204, 1, none⟩ = some (.int .i64 0) := (blk_cell BK204.out 1).trans rfl
    have hfs24 := blk_frozen BK204.out 1
    have hns24_0 := NB203_204.out
    have hns24_2 := NB210_204.out
    have hms24_0 := NB204_203.out
    have hms24_2 := NB204_210.out
    have hs25 : w22.cell? ⟨gb204, 2, none⟩ = some (.bool false) := (blk_cell BK204.out 2).trans rfl
    have hfs25 := blk_frozen BK204.out 2
    have hns25_0 := NB203_204.out
    have hns25_2 := NB210_204.out
    have hms25_0 := NB204_203.out
    have hms25_2 := NB204_210.out
    have hs26 : w22.cell? ⟨gb204, 3, none⟩ = some (.string (⟨#[]⟩ : ByteArray)) := (blk_cell BK204.out 3).trans rfl
    have hfs26 := blk_frozen BK204.out 3
    have hns26_0 := NB203_204.out
    have hns26_2 := NB210_204.out
    have hms26_0 := NB204_203.out
    have hms26_2 := NB204_210.out
    refine skip_ (w1 := ?_) qgcr rfl ?_ ?_
    rotate_left
    ·go_simp
     rfl
    refine hK.out _ _ q0ie (fun hHeld => ?_)
    clear hK K
    refine pure_ (i := 3) (N := some 3) (v := ?_) (a' := ?_) #[true, true, true, true] rfl rfl qg3m (fun _ _ _ h => h) (Or.inl ⟨qgcr, ?_⟩) ?_ ?_
    rotate_left
    ·intro w'
     go_simp
     with_reducible rfl
    rotate_left
    ·exact z19_0
    refine done_ qg3m ?_
    try go_wp2_with (first | ((with_reducible refine gate_st (ty := 64) rfl ?_); refine storeC10 rfl rfl rfl rfl rfl q0kn qr2c qg3m rfl ?_) | ((with_reducible refine gate_ld (ty := 64) rfl ?_); (try (with_reducible refine gate_gd rfl ?_; refine gate_guard q8ju ?_; dsimp only)); refine load_st rfl rfl rfl q0kn qr2c Tryd.underlying64 rfl qg3m ?_; (try simp only [Act.put, List.setIfInBounds_toArray, List.set_cons_zero, List.set_cons_succ])) | go_in)
    refine bodyPost_ret (results_ct rfl _ _ gb204 31 #[.int .i64 t205, .int .i64 t206, .bool t207, .string t208] (0, 0) _ rfl q5n2 Tryd.underlying31 rfl qg3m) rfl ?_
    exact ⟨qxu5, qn99⟩
   ·replace c20 := Bool.eq_false_iff.mpr c20
    subst c20
    rw [if_neg (show ¬ (false = true) by decide)] at H
    by_cases c27 : t206 = 4789
    ·rw [if_pos c27] at H
     have c27b0 : (t206 == 4789) = true := beq_iff_eq.mpr c27
     have c27b1 : (t206 != 4789) = false := bne_eq_false_iff_eq.mpr c27
     clear c27
     simp only [Option.some.injEq, Prod.mk.injEq] at H
     obtain ⟨rfl, rfl, rfl, rfl, rfl⟩ := H
     have hnb28 := NB210_203.out
     have hnc28 := NB203_210.out
     have hnb29 := NB210_204.out
     have hnc29 := NB204_210.out
     obtain ⟨hcz30_0, hcz30_1, hcz30_2, hcz30_3⟩ := cells4 BK210.out
     obtain ⟨hfz30_0, hfz30_1, hfz30_2, hfz30_3⟩ := frozen4 BK210.out
     have hnb31 := NB204_203.out
     have hnc31 := NB203_204.out
     obtain ⟨hcz32_0, hcz32_1, hcz32_2, hcz32_3⟩ := cells4 BK204.out
     obtain ⟨hfz32_0, hfz32_1, hfz32_2, hfz32_3⟩ := frozen4 BK204.out
     go_wp2_with (first | ((with_reducible refine gate_st (ty := 64) rfl ?_); refine storeC10 rfl rfl rfl rfl rfl q0kn qr2c qg3m rfl ?_) | ((with_reducible refine gate_ld (ty := 64) rfl ?_); (try (with_reducible refine gate_gd rfl ?_; refine gate_guard q8ju ?_; dsimp only)); refine load_st rfl rfl rfl q0kn qr2c Tryd.underlying64 rfl qg3m ?_; (try simp only [Act.put, List.setIfInBounds_toArray, List.set_cons_zero, List.set_cons_succ])) | go_in)
     refine bodyPost_ret (results_ct rfl _ _ gb204 31 #[.int .i64 t205, .int .i64 t206, .bool t207, .string t208] (0, 0) _ rfl q5n2 Tryd.underlying31 rfl qg3m) rfl ?_
     exact ⟨qxu5, qn99⟩
    ·rw [if_neg c27] at H
     have c27b0 : (t206 == 4789) = false := beq_eq_false_iff_ne.mpr c27
     have c27b1 : (t206 != 4789) = true := bne_iff_ne.mpr c27
     replace H := Option.bind_eq_some_iff.mp H
     obtain ⟨t212, A330, H⟩ := H
     try dsimp only at H
     have A33 := Aside0.mk A330
     clear A330
     simp only [Option.some.injEq, Prod.mk.injEq] at H
     obtain ⟨rfl, rfl, rfl, rfl, rfl⟩ := H
     have hnb34 := NB210_203.out
     have hnc34 := NB203_210.out
     have hnb35 := NB210_204.out
     have hnc35 := NB204_210.out
     obtain ⟨hcz36_0, hcz36_1, hcz36_2, hcz36_3⟩ := cells4 BK210.out
     obtain ⟨hfz36_0, hfz36_1, hfz36_2, hfz36_3⟩ := frozen4 BK210.out
     try go_wp2_with (first | ((with_reducible refine gate_st (ty := 64) rfl ?_); refine storeC10 rfl rfl rfl rfl rfl q0kn qr2c qg3m rfl ?_) | ((with_reducible refine gate_ld (ty := 64) rfl ?_); (try (with_reducible refine gate_gd rfl ?_; refine gate_guard q8ju ?_; dsimp only)); refine load_st rfl rfl rfl q0kn qr2c Tryd.underlying64 rfl qg3m ?_; (try simp only [Act.put, List.setIfInBounds_toArray, List.set_cons_zero, List.set_cons_succ])) | go_in)
     replace BK203 := Aside0.mk (blk_drew BK203.out)
     replace BK204 := Aside0.mk (blk_drew BK204.out)
     replace BK210 := Aside0.mk (blk_drew BK210.out)
     replace HB := Aside0.mk (below_drew1 HB.out)
     refine start_ (n := 4) (S := fun w' => w'.cell? ⟨gb210, 0, none⟩ = some (.int .i64 t205) ∧ w'.cell? ⟨gb210, 1, none⟩ = some (.int .i64 t206) ∧ w'.cell? ⟨gb210, 2, none⟩ = some (.bool t207) ∧ w'.cell? ⟨gb210, 3, none⟩ = some (.string t208)) (ds := []) #[false, false, false, false] qg3m rfl rfl ⟨(blk_cell BK210.out 0).trans rfl, (blk_cell BK210.out 1).trans rfl, (blk_cell BK210.out 2).trans rfl, (blk_cell BK210.out 3).trans rfl⟩ (fun hHeld => ?_)
     generalize wc.drew = w37 at BK203 BK204 BK210 HB hHeld ⊢
     refine take_ (i := 0) (N := some 30) (v := ?_) (a' := ?_) #[true, false, false, false] rfl rfl qg3m (fun _ _ _ h => h) (Or.inl ⟨qgcr, ?_⟩) hHeld ?_ ?_
     rotate_left
     ·rintro w' ⟨s0, s1, s2, s3⟩
      go_simp
      with_reducible rfl
     rotate_left
     ·exact z19_0
     refine one_ (i := 1) (N := some 31) #[true, true, false, false] rfl rfl qg3m qomw (fun K hK => ?_)
     refine goes_ Tryd.func27 qg3m rfl #[.string (⟨#[100, 97, 116, 97, 103, 114, 97, 109]⟩ : ByteArray), .int .i64 7] qlo1 rfl rfl qraq ?_
     with_reducible refine (station_not.calls (⟨#[100, 97, 116, 97, 103, 114, 97, 109]⟩ : ByteArray) 7 t212 _ A33.out).mono ?_
     rintro e w' ⟨rfl, ⟨nd, rfl⟩⟩
     refine ⟨_, rfl, ?_⟩
     (try simp only [errW_none, errW_some])
     refine hK.out _ _ qwla (fun hHeld => ?_)
     clear hK K
     refine norm_ (a' := ?_) ?_ ?_
     rotate_left
     ·show Act.put _ (some 31) _ = _
      simp only [Act.put, List.setIfInBounds_toArray, List.set_cons_zero, List.set_cons_succ, i64_w, i32_w]
      rfl
     refine one_ (i := 2) (N := none) #[true, true, true, false] rfl rfl qg3m qomw (fun K hK => ?_)
     have hs38 : w37.cell? ⟨gb204, 0, none⟩ = some (.int .i64 0) := (blk_cell BK204.out 0).trans rfl
     have hfs38 := blk_frozen BK204.out 0
     have hns38_0 := NB203_204.out
     have hns38_2 := NB210_204.out
     have hms38_0 := NB204_203.out
     have hms38_2 := NB204_210.out
     have hs39 : w37.cell? ⟨gb204, 1, none⟩ = some (.int .i64 0) := (blk_cell BK204.out 1).trans rfl
     have hfs39 := blk_frozen BK204.out 1
     have hns39_0 := NB203_204.out
     have hns39_2 := NB210_204.out
     have hms39_0 := NB204_203.out
     have hms39_2 := NB204_210.out
     have hs40 : w37.cell? ⟨gb204, 2, none⟩ = some (.bool false) := (blk_cell BK204.out 2).trans rfl
     have hfs40 := blk_frozen BK204.out 2
     have hns40_0 := NB203_204.out
     have hns40_2 := NB210_204.out
     have hms40_0 := NB204_203.out
     have hms40_2 := NB204_210.out
     have hs41 : w37.cell? ⟨gb204, 3, none⟩ = some (.string (⟨#[]⟩ : ByteArray)) := (blk_cell BK204.out 3).trans rfl
     have hfs41 := blk_frozen BK204.out 3
     have hns41_0 := NB203_204.out
     have hns41_2 := NB210_204.out
     have hms41_0 := NB204_203.out
     have hms41_2 := NB204_210.out
     refine skip_ (w1 := ?_) qgcr rfl ?_ ?_
     rotate_left
     ·go_simp
      rfl
     refine hK.out _ _ q0ie (fun hHeld => ?_)
     clear hK K
     refine pure_ (i := 3) (N := some 3) (v := ?_) (a' := ?_) #[true, true, true, true] rfl rfl qg3m (fun _ _ _ h => h) (Or.inl ⟨qgcr, ?_⟩) ?_ ?_
     rotate_left
     ·intro w'
      go_simp
      with_reducible rfl
     rotate_left
     ·exact z19_0
     refine done_ qg3m ?_
     try go_wp2_with (first | ((with_reducible refine gate_st (ty := 64) rfl ?_); refine storeC10 rfl rfl rfl rfl rfl q0kn qr2c qg3m rfl ?_) | ((with_reducible refine gate_ld (ty := 64) rfl ?_); (try (with_reducible refine gate_gd rfl ?_; refine gate_guard q8ju ?_; dsimp only)); refine load_st rfl rfl rfl q0kn qr2c Tryd.underlying64 rfl qg3m ?_; (try simp only [Act.put, List.setIfInBounds_toArray, List.set_cons_zero, List.set_cons_succ])) | go_in)
     refine bodyPost_ret (results_ct rfl _ _ gb204 31 #[.int .i64 t205, .int .i64 t206, .bool t207, .string t208] (0, 0) _ rfl q5n2 Tryd.underlying31 rfl qg3m) rfl ?_
     exact ⟨qxu5, qn99⟩
end Go.Proofs.YtbkgaplldfilnaaDoor.P
