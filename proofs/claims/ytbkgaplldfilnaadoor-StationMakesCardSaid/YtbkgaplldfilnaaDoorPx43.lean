-- slim
-- Written by wip/hprint.py (this session's program) through the kit's print program; hand contracts are marked 'by hand'.
import Derived.Test.YtbkgaplldfilnaaDoorAbb
import Derived.Test.YtbkgaplldfilnaaDoorRow
import Derived.Test.YtbkgaplldfilnaaDoorPx0
import Derived.Test.YtbkgaplldfilnaaDoorPx39
import Derived.Test.YtbkgaplldfilnaaDoorPx40
import Derived.Test.YtbkgaplldfilnaaDoorPx35
import Derived.Test.YtbkgaplldfilnaaDoorPx36
namespace Go.Proofs.YtbkgaplldfilnaaDoor.P
open Go.RowKit Go.Proofs.YtbkgaplldfilnaaDoorW.PrintWords Go.Proofs.YtbkgaplldfilnaaDoorW.PrintLast Go.Proofs.YtbkgaplldfilnaaDoorW.PrintMore
attribute [local go_sem] max2_int min2_int max_two min_two max_three min_three max_four min_four   -- for this text's walks alone
set_option linter.unusedVariables false
set_option linter.unusedSimpArgs false

theorem qj8s {p : Prop} (h : p := by (with_reducible repeat (first | refine blk_drewN ?_ _ | refine blk_drew ?_ | refine blk_alloc ?_ _)); exact BK607.out) : p := h
theorem q4xe {p : Prop} (h : p := by with_reducible repeat (first | (apply blk_far; case hp => assumption) | apply blk_set | refine blk_drewN ?_ _ | refine blk_drew ?_ | refine blk_alloc ?_ _ | exact BK607.out)) : p := h
/-! ### gangwayref20_Make: function 12 -/
def gangwayref20_Make.f (k : Nat) (a0 : Int) (a1 : Int) (a2_0 : Int) (a2_1 : Int) (a2_2 : Bool) (a2_3 : ByteArray) (a3 : Int) (a4 : Int) : Option (ByteArray × Int) := (gangwayref07_Build.f k a0 a1 a2_0 a2_1 a2_2 a2_3).bind fun bt608 => (if bt608.2 = 0 then (if (wrap64 (20 + (bt608.1.size : Int))) > a4 then (some ((⟨#[]⟩ : ByteArray), 201)) else ((gangwayref06_Build.f k 0 (Go.bits .and .i64 a3 65535) true false 0 64 17 a0 a1 bt608.1).bind fun bt610 => (if bt610.2 = 0 then (some (bt610.1, 0)) else (some ((⟨#[]⟩ : ByteArray), 201))))) else (some ((⟨#[]⟩ : ByteArray), bt608.2)))
theorem gangwayref20_Make.mono : ∀ a0 a1 a2 a3 a4 a5 a6 a7 k, LeO (gangwayref20_Make.f k a0 a1 a2 a3 a4 a5 a6 a7) (gangwayref20_Make.f (k + 1) a0 a1 a2 a3 a4 a5 a6 a7) := by
 intro a0 a1 a2 a3 a4 a5 a6 a7 k
 unfold gangwayref20_Make.f
 repeat' first
   | (with_reducible exact gangwayref06_Build.mono _ _ _ _ _ _ _ _ _ _ _)
   | (with_reducible exact gangwayref07_Build.mono _ _ _ _ _ _ _)
   | (with_reducible exact LeO.refl _)
   | (with_reducible exact LeO.none _)
   | (with_reducible refine LeO.ite ?_ ?_)
   | (with_reducible refine LeO.bind ?_ (fun _ => ?_))
   | exact gangwayref06_Build.mono _ _ _ _ _ _ _ _ _ _ _
   | exact gangwayref07_Build.mono _ _ _ _ _ _ _
   | exact LeO.none _
   | refine LeO.ite ?_ ?_
   | refine LeO.bind ?_ (fun _ => ?_)
theorem z43_0 {p : Prop} (h : p := by
 simp only [Option.some.injEq, Prod.mk.injEq] at H
 obtain ⟨rfl, rfl⟩ := H
 go_enter Tryd.func12, Tryd.ntmps12
 go_wp2_with (first | ((with_reducible refine gate_st (ty := 64) rfl ?_); refine storeC10 rfl rfl rfl rfl rfl q4xe qr2c qg3m rfl ?_) | ((with_reducible refine gate_ld (ty := 64) rfl ?_); (try (with_reducible refine gate_gd rfl ?_; refine gate_guard q8ju ?_; dsimp only)); refine load_st rfl rfl rfl q4xe qr2c Tryd.underlying64 rfl qg3m ?_; (try simp only [Act.put, List.setIfInBounds_toArray, List.set_cons_zero, List.set_cons_succ])) | ((with_reducible refine gate_dst (N := 7) rfl ?_); refine box_event qgcr (N := 7) qgcr (cs := #[.int .i64 a2_0, .int .i64 a2_1, .bool a2_2, .string a2_3]) (t := 31) qlto ?_; intro gbz0 hg wz1 hbox hb; have BK607 := Aside0.mk (hbox); have GEz0 := Aside0.mk ((qisx : w.heap.size ≤ gbz0)); replace HB := Aside0.mk (below_step qpag hb); clear hb hbox hg; obtain ⟨hczz2_0, hczz2_1, hczz2_2, hczz2_3⟩ := cells4 BK607.out; obtain ⟨hfzz2_0, hfzz2_1, hfzz2_2, hfzz2_3⟩ := frozen4 BK607.out) | ((with_reducible refine gate_callee (f := 25) rfl ?_); refine goesL_ (some 20) rfl rfl Tryd.func25 qg3m rfl #[.int .u32 a0, .int .u32 a1, .agg #[.int .i64 a2_0, .int .i64 a2_1, .bool a2_2, .string a2_3]] rfl qraq ?_; (with_reducible refine (gangwayref07_Build.calls k a0 a1 a2_0 a2_1 a2_2 a2_3 t608 t609 _ A6.out).mono ?_); rintro e wz3 ⟨rfl, hb⟩; refine ⟨_, rfl, ?_⟩; replace BK607 := Aside0.mk (blk_below (g := gbz0) qj8s hb); replace HB := Aside0.mk (below_step qmef hb); obtain ⟨hcyz4_607_0, hcyz4_607_1, hcyz4_607_2, hcyz4_607_3⟩ := cells4 BK607.out; (try clear hb); (try clear hb2); (try clear hk); (try clear hi)) | ((with_reducible refine gate_callee (f := 26) rfl ?_); refine goesL_ (some 38) rfl rfl Tryd.func26 qg3m rfl #[.agg #[.int .i64 0, .int .i64 (Go.bits .and .i64 a3 65535), .bool true, .bool false, .int .i64 0, .int .i64 64, .int .i64 17, .int .u32 a0, .int .u32 a1, .string t608]] rfl qraq ?_; (with_reducible refine (gangwayref06_Build.calls k 0 (Go.bits .and .i64 a3 65535) true false 0 64 17 a0 a1 t608 t610 t611 _ A12.out).mono ?_); rintro e wz5 ⟨rfl, hb⟩; refine ⟨_, rfl, ?_⟩; replace BK607 := Aside0.mk (blk_below (g := gbz0) qj8s hb); replace HB := Aside0.mk (below_step qmef hb); obtain ⟨hcyz6_607_0, hcyz6_607_1, hcyz6_607_2, hcyz6_607_3⟩ := cells4 BK607.out; (try clear hb); (try clear hb2); (try clear hk); (try clear hi)))
 go_ret2
 exact ⟨qxu5, qmef⟩) : p := h
theorem z43_1 {p : Prop} (h : p := by
 simp only [Option.some.injEq, Prod.mk.injEq] at H
 obtain ⟨rfl, rfl⟩ := H
 go_enter Tryd.func12, Tryd.ntmps12
 go_wp2_with (first | ((with_reducible refine gate_st (ty := 64) rfl ?_); refine storeC10 rfl rfl rfl rfl rfl q4xe qr2c qg3m rfl ?_) | ((with_reducible refine gate_ld (ty := 64) rfl ?_); (try (with_reducible refine gate_gd rfl ?_; refine gate_guard q8ju ?_; dsimp only)); refine load_st rfl rfl rfl q4xe qr2c Tryd.underlying64 rfl qg3m ?_; (try simp only [Act.put, List.setIfInBounds_toArray, List.set_cons_zero, List.set_cons_succ])) | ((with_reducible refine gate_dst (N := 7) rfl ?_); refine box_event qgcr (N := 7) qgcr (cs := #[.int .i64 a2_0, .int .i64 a2_1, .bool a2_2, .string a2_3]) (t := 31) qlto ?_; intro gbz0 hg wz1 hbox hb; have BK607 := Aside0.mk (hbox); have GEz0 := Aside0.mk ((qisx : w.heap.size ≤ gbz0)); replace HB := Aside0.mk (below_step qpag hb); clear hb hbox hg; obtain ⟨hczz2_0, hczz2_1, hczz2_2, hczz2_3⟩ := cells4 BK607.out; obtain ⟨hfzz2_0, hfzz2_1, hfzz2_2, hfzz2_3⟩ := frozen4 BK607.out) | ((with_reducible refine gate_callee (f := 25) rfl ?_); refine goesL_ (some 20) rfl rfl Tryd.func25 qg3m rfl #[.int .u32 a0, .int .u32 a1, .agg #[.int .i64 a2_0, .int .i64 a2_1, .bool a2_2, .string a2_3]] rfl qraq ?_; (with_reducible refine (gangwayref07_Build.calls k a0 a1 a2_0 a2_1 a2_2 a2_3 t608 t609 _ A6.out).mono ?_); rintro e wz3 ⟨rfl, hb⟩; refine ⟨_, rfl, ?_⟩; replace BK607 := Aside0.mk (blk_below (g := gbz0) qj8s hb); replace HB := Aside0.mk (below_step qmef hb); obtain ⟨hcyz4_607_0, hcyz4_607_1, hcyz4_607_2, hcyz4_607_3⟩ := cells4 BK607.out; (try clear hb); (try clear hb2); (try clear hk); (try clear hi)))
 go_ret2
 exact ⟨qxu5, qmef⟩) : p := h
set_option maxHeartbeats 8000000 in
set_option maxRecDepth 100000 in
theorem gangwayref20_Make.calls (k : Nat) (a0 : Int) (a1 : Int) (a2_0 : Int) (a2_1 : Int) (a2_2 : Bool) (a2_3 : ByteArray) (a3 : Int) (a4 : Int) (r1 : ByteArray) (r2 : Int) (w : World) (h : gangwayref20_Make.f k a0 a1 a2_0 a2_1 a2_2 a2_3 a3 a4 = some (r1, r2)) :
  Calls Tryd.prog 12 #[.int .u32 a0, .int .u32 a1, .agg #[.int .i64 a2_0, .int .i64 a2_1, .bool a2_2, .string a2_3], .int .i64 a3, .int .i64 a4] w fun e w' => e = .returned (.tuple #[.string r1, .int .i64 r2]) ∧ Below w.heap.size w w' := by
 have hu31 := Tryd.underlying31
 have hu64 := Tryd.underlying64
 have HB := Aside0.mk (Below.refl w.heap.size w)
 have H := h
 unfold gangwayref20_Make.f at H
 clear h
 replace H := Option.bind_eq_some_iff.mp H
 obtain ⟨⟨t608, t609⟩, A60, H⟩ := H
 try dsimp only at H
 have A6 := Aside0.mk A60
 clear A60
 by_cases c7 : t609 = 0
 ·rw [if_pos c7] at H
  have c7b0 : (t609 == 0) = true := beq_iff_eq.mpr c7
  have c7b1 : (t609 != 0) = false := bne_eq_false_iff_eq.mpr c7
  clear c7
  by_cases c8 : (wrap64 (20 + (t608.size : Int))) > a4
  ·rw [if_pos c8] at H
   have c8b0 : decide (a4 < (wrap64 (20 + (t608.size : Int)))) = true := decide_eq_true c8
   clear c8
   exact z43_1
  ·rw [if_neg c8] at H
   have c8b0 : decide (a4 < (wrap64 (20 + (t608.size : Int)))) = false := decide_eq_false c8
   clear c8
   replace H := Option.bind_eq_some_iff.mp H
   obtain ⟨⟨t610, t611⟩, A120, H⟩ := H
   try dsimp only at H
   have A12 := Aside0.mk A120
   clear A120
   by_cases c13 : t611 = 0
   ·rw [if_pos c13] at H
    have c13b0 : (t611 == 0) = true := beq_iff_eq.mpr c13
    have c13b1 : (t611 != 0) = false := bne_eq_false_iff_eq.mpr c13
    clear c13
    exact z43_0
   ·rw [if_neg c13] at H
    have c13b0 : (t611 == 0) = false := beq_eq_false_iff_ne.mpr c13
    have c13b1 : (t611 != 0) = true := bne_iff_ne.mpr c13
    exact z43_0
 ·rw [if_neg c7] at H
  have c7b0 : (t609 == 0) = false := beq_eq_false_iff_ne.mpr c7
  have c7b1 : (t609 != 0) = true := bne_iff_ne.mpr c7
  exact z43_1
attribute [local go_sem] max2_int min2_int max_two min_two max_three min_three max_four min_four   -- for this text's walks alone
set_option linter.unusedVariables false
set_option linter.unusedSimpArgs false

theorem q29j {p : Prop} (h : p := by (with_reducible repeat (first | refine blk_drewN ?_ _ | refine blk_drew ?_ | refine blk_alloc ?_ _)); exact BK612.out) : p := h
theorem qfnq {p : Prop} (h : p := by (with_reducible repeat (first | refine blk_drewN ?_ _ | refine blk_drew ?_ | refine blk_alloc ?_ _)); exact BK613.out) : p := h
theorem q2j1 {p : Prop} (h : p := by repeat (first | (with_reducible first | exact HB.out | apply below_alloc | apply pw_below_drewN | apply below_drew1 | refine below_set ?_ GE612.out) | exact HB.out)) : p := h
theorem q213 {p : Prop} (h : p := by repeat (first | (with_reducible first | exact HB.out | apply below_alloc | apply pw_below_drewN | apply below_drew1 | refine below_set ?_ GE612.out | refine below_set ?_ GE613.out) | exact HB.out)) : p := h
/-! ### gangwaylaw20_StationMakes: function 4 -/
def gangwaylaw20_StationMakes.j0 : Nat → Int → Int → Int → Int → Int → Int → Bool → ByteArray → Option (Bool)
 | 0, _, _, _, _, _, _, _, _ => none
 | k + 1, x613000, x613001, x613002, x613003, x614000, x614001, x614002, x614003 => (station_Make.f k x613000 x613001 x614000 x614001 x614002 x614003 x613002 x613003).bind fun bt614 => ((gangwayref20_Make.f k x613000 x613001 x614000 x614001 x614002 x614003 x613002 x613003).bind fun bt616 => ((gangwaylaw20_fixed.f k).bind fun t618 => (if t618 = true then (if bt614.1.toList = bt616.1.toList then (some (bt614.2 == bt616.2)) else (none)) else (none))))
def gangwaylaw20_StationMakes.f (k : Nat) (a0_0 : Int) (a0_1 : Int) (a0_2 : Int) (a0_3 : Int) (a1_0 : Int) (a1_1 : Int) (a1_2 : Bool) (a1_3 : ByteArray) : Option (Bool) := if 0 ≤ (mn (a1_3.size : Int) 1700) then (if (mn (a1_3.size : Int) 1700) ≤ (a1_3.size : Int) then (gangwaylaw20_StationMakes.j0 k a0_0 a0_1 a0_2 a0_3 a1_0 a1_1 a1_2 (a1_3.extract 0 ((mn (a1_3.size : Int) 1700) : Int).toNat)) else (none)) else (none)
theorem gangwaylaw20_StationMakes.mono_l : ∀ k, (∀ y0 y1 y2 y3 y4 y5 y6 y7, LeO (gangwaylaw20_StationMakes.j0 k y0 y1 y2 y3 y4 y5 y6 y7) (gangwaylaw20_StationMakes.j0 (k + 1) y0 y1 y2 y3 y4 y5 y6 y7))
 | 0 => fun _ _ _ _ _ _ _ _ r h => by simp [gangwaylaw20_StationMakes.j0] at h
 | k + 1 => by
  have ih0 := gangwaylaw20_StationMakes.mono_l k
  ·intro y0 y1 y2 y3 y4 y5 y6 y7
   unfold gangwaylaw20_StationMakes.j0
   repeat' first
   | (with_reducible exact ih0 _ _ _ _ _ _ _ _)
   | (with_reducible exact gangwaylaw20_fixed.mono _)
   | (with_reducible exact gangwayref20_Make.mono _ _ _ _ _ _ _ _ _)
   | (with_reducible exact station_Make.mono _ _ _ _ _ _ _ _ _)
   | (with_reducible exact LeO.refl _)
   | (with_reducible exact LeO.none _)
   | (with_reducible refine LeO.ite ?_ ?_)
   | (with_reducible refine LeO.bind ?_ (fun _ => ?_))
   | exact ih0 _ _ _ _ _ _ _ _
   | exact gangwaylaw20_fixed.mono _
   | exact gangwayref20_Make.mono _ _ _ _ _ _ _ _ _
   | exact station_Make.mono _ _ _ _ _ _ _ _ _
   | exact LeO.none _
   | refine LeO.ite ?_ ?_
   | refine LeO.bind ?_ (fun _ => ?_)
set_option maxHeartbeats 8000000 in
set_option maxRecDepth 100000 in
theorem gangwaylaw20_StationMakes.calls (k : Nat) (a0_0 : Int) (a0_1 : Int) (a0_2 : Int) (a0_3 : Int) (a1_0 : Int) (a1_1 : Int) (a1_2 : Bool) (a1_3 : ByteArray) (r : Bool) (w : World) (hL : Laid w) (h : gangwaylaw20_StationMakes.f k a0_0 a0_1 a0_2 a0_3 a1_0 a1_1 a1_2 a1_3 = some r) :
  Calls Tryd.prog 4 #[.agg #[.int .u32 a0_0, .int .u32 a0_1, .int .i64 a0_2, .int .i64 a0_3], .agg #[.int .i64 a1_0, .int .i64 a1_1, .bool a1_2, .string a1_3]] w fun e w' => e = .returned (.bool r) ∧ Below w.heap.size w w' := by
 have HLD := Aside0.mk hL
 clear hL
 have hu41 := Tryd.underlying41
 have hu31 := Tryd.underlying31
 have HB := Aside0.mk (Below.refl w.heap.size w)
 have H := h
 unfold gangwaylaw20_StationMakes.f at H
 clear h
 have HC3 := Aside0.mk H
 clear H
 go_enter Tryd.func4, Tryd.ntmps4
 go_upto_region 1 with (first | ((with_reducible refine gate_dst (N := 2) rfl ?_); refine box_event qgcr (N := 2) qgcr (cs := #[.int .u32 a0_0, .int .u32 a0_1, .int .i64 a0_2, .int .i64 a0_3]) (t := 41) qlto ?_; intro gb612 hg w4 hbox hb; have BK612 := Aside0.mk (hbox); have GE612 := Aside0.mk ((qisx : w.heap.size ≤ gb612)); replace HB := Aside0.mk (below_step qpag hb); clear hb hbox hg) | ((with_reducible refine gate_dst (N := 3) rfl ?_); refine box_event qgcr (N := 3) qgcr (cs := #[.int .i64 a1_0, .int .i64 a1_1, .bool a1_2, .string a1_3]) (t := 31) qlto ?_; intro gb613 hg w5 hbox hb; have BK613 := Aside0.mk (hbox); have GE613 := Aside0.mk ((by rw [hg]; exact (below_size q2j1) : w.heap.size ≤ gb613)); have NB612_613 := Aside0.mk ((by rw [hg]; exact Nat.ne_of_lt (blk_lt (g := gb612) q29j) : gb612 ≠ gb613)); have NB613_612 := Aside0.mk ((by rw [hg]; exact Nat.ne_of_gt (blk_lt (g := gb612) q29j) : gb613 ≠ gb612)); replace BK612 := Aside0.mk (blk_below (g := gb612) q29j hb); replace HB := Aside0.mk (below_step q2j1 hb); clear hb hbox hg))
 (try simp only [Act.put, List.setIfInBounds_toArray, List.set_cons_zero, List.set_cons_succ])
 go_cut [] (fun wc => ∃ (kq : Nat) (x614003_2 : ByteArray), Aside0 (gangwaylaw20_StationMakes.j0 kq a0_0 a0_1 a0_2 a0_3 a1_0 a1_1 a1_2 x614003_2 = some r) ∧ Aside0 (kq ≤ k) ∧ Aside0 (wc.heap[gb612]? = some (.cells #[.int .u32 a0_0, .int .u32 a0_1, .int .i64 a0_2, .int .i64 a0_3] 41 (0, 0))) ∧ Aside0 (wc.heap[gb613]? = some (.cells #[.int .i64 a1_0, .int .i64 a1_1, .bool a1_2, .string x614003_2] 31 (0, 0))) ∧ Aside0 (Below w.heap.size w wc))
 case first =>
  have H := HC3.out
  clear HC3
  obtain ⟨ji6, hji6⟩ : ∃ j_ : Int, (mn (a1_3.size : Int) 1700) = j_ := ⟨_, rfl⟩
  replace H : (if 0 ≤ (ji6) then (if (ji6) ≤ (a1_3.size : Int) then (gangwaylaw20_StationMakes.j0 k a0_0 a0_1 a0_2 a0_3 a1_0 a1_1 a1_2 (a1_3.extract 0 ((ji6) : Int).toNat)) else (none)) else (none)) = some r := by first | (rw [hji6] at H; exact H) | (simp only [hji6] at H ⊢; exact H)
  (try (have hji6h : ji6 ≤ 1700 := by (rw [← hji6]; unfold mn; (repeat' split) <;> omega)))
  (try (have hji6g : ji6 ≤ 64 := by omega))
  (try (have hji6l : 0 ≤ ji6 := by (rw [← hji6]; unfold mn; (repeat' split) <;> omega)))
  (try (have hji6m : 0 ≤ ji6 := by omega))
  have hji6_ : (if 1700 < (a1_3.size : Int) then 1700 else (a1_3.size : Int)) = ji6 := hji6
  by_cases c7 : 0 ≤ (ji6)
  ·rw [if_pos c7] at H
   have c7b0 := eq_true c7
   have c7b1 : decide (0 ≤ (ji6)) = true := decide_eq_true c7
   clear c7
   by_cases c8 : (ji6) ≤ (a1_3.size : Int)
   ·rw [if_pos c8] at H
    have c8b0 := eq_true c8
    have c8b1 : decide ((ji6) ≤ (a1_3.size : Int)) = true := decide_eq_true c8
    clear c8
    have H' := Aside0.mk H
    clear H
    have hnb9 := NB613_612.out
    have hnc9 := NB612_613.out
    obtain ⟨hcz10_0, hcz10_1, hcz10_2, hcz10_3⟩ := cells4 BK613.out
    obtain ⟨hfz10_0, hfz10_1, hfz10_2, hfz10_3⟩ := frozen4 BK613.out
    go_wp2
    go_meet
    case rel => exact ⟨_, (a1_3.extract 0 ((ji6) : Int).toNat), H', ⟨qpfc⟩, ⟨(by (with_reducible repeat (first | refine blk_drewN ?_ _ | refine blk_drew ?_ | refine blk_alloc ?_ _ | refine blk_far ?_ NB612_613.out _)); exact BK612.out)⟩, ⟨(by (with_reducible repeat (first | refine blk_drewN ?_ _ | refine blk_drew ?_ | refine blk_alloc ?_ _)); refine blk_put (cs := #[.int .i64 a1_0, .int .i64 a1_1, .bool a1_2, .string a1_3]) ?_ 3 _ rfl; (with_reducible repeat (first | refine blk_drewN ?_ _ | refine blk_drew ?_ | refine blk_alloc ?_ _)); exact BK613.out)⟩, ⟨q213⟩⟩
   ·rw [if_neg c8] at H
    exact absurd H q6hr
  ·rw [if_neg c7] at H
   exact absurd H q6hr
 case rest =>
  clear HC3
  try clear p2
  try clear c4
  try clear c7
  try clear c7b0
  try clear c7b1
  try clear c8
  try clear c8b0
  try clear c8b1
  try clear c9
  obtain ⟨kq, x614003_2, HA, HJ2, BK612, BK613, HB⟩ := hcut
  cases kq with
  | zero => exact absurd HA.out (by simp [gangwaylaw20_StationMakes.j0])
  | succ kj2 =>
   have H := HA.out
   clear HA
   simp only [gangwaylaw20_StationMakes.j0] at H
   replace H := Option.bind_eq_some_iff.mp H
   obtain ⟨⟨t614, t615⟩, A110, H⟩ := H
   try dsimp only at H
   have A11 := Aside0.mk A110
   clear A110
   replace H := Option.bind_eq_some_iff.mp H
   obtain ⟨⟨t616, t617⟩, A120, H⟩ := H
   try dsimp only at H
   have A12 := Aside0.mk A120
   clear A120
   replace H := Option.bind_eq_some_iff.mp H
   obtain ⟨t618, A130, H⟩ := H
   try dsimp only at H
   have A13 := Aside0.mk A130
   clear A130
   by_cases c14 : t618 = true
   ·subst c14
    rw [if_pos rfl] at H
    by_cases c15 : t614.toList = t616.toList
    ·rw [if_pos c15] at H
     have c15b0 : (t614.toList == t616.toList) = true := beq_iff_eq.mpr c15
     have c15b1 : (t614.toList != t616.toList) = false := bne_eq_false_iff_eq.mpr c15
     clear c15
     obtain rfl := Option.some.inj H
     have hnb16 := NB612_613.out
     have hnc16 := NB613_612.out
     obtain ⟨hcz17_0, hcz17_1, hcz17_2, hcz17_3⟩ := cells4 BK612.out
     obtain ⟨hfz17_0, hfz17_1, hfz17_2, hfz17_3⟩ := frozen4 BK612.out
     obtain ⟨hcz18_0, hcz18_1, hcz18_2, hcz18_3⟩ := cells4 BK613.out
     obtain ⟨hfz18_0, hfz18_1, hfz18_2, hfz18_3⟩ := frozen4 BK613.out
     go_wp2_with (first | ((with_reducible refine gate_callee (f := 11) rfl ?_); refine goesL_ (some 27) rfl rfl Tryd.func11 qg3m rfl #[.int .u32 a0_0, .int .u32 a0_1, .agg #[.int .i64 a1_0, .int .i64 a1_1, .bool a1_2, .string x614003_2], .int .i64 a0_2, .int .i64 a0_3] rfl qraq ?_; (with_reducible refine (station_Make.calls kj2 a0_0 a0_1 a1_0 a1_1 a1_2 x614003_2 a0_2 a0_3 t614 t615 _ A11.out).mono ?_); rintro e w19 ⟨rfl, hb⟩; refine ⟨_, rfl, ?_⟩; replace BK612 := Aside0.mk (blk_below (g := gb612) q29j hb); replace BK613 := Aside0.mk (blk_below (g := gb613) qfnq hb); replace HB := Aside0.mk (below_step q213 hb); (try clear hb); (try clear hb2); (try clear hk); (try clear hi); obtain ⟨hcz20_0, hcz20_1, hcz20_2, hcz20_3⟩ := cells4 BK612.out; obtain ⟨hfz20_0, hfz20_1, hfz20_2, hfz20_3⟩ := frozen4 BK612.out; obtain ⟨hcz21_0, hcz21_1, hcz21_2, hcz21_3⟩ := cells4 BK613.out; obtain ⟨hfz21_0, hfz21_1, hfz21_2, hfz21_3⟩ := frozen4 BK613.out) | ((with_reducible refine gate_callee (f := 12) rfl ?_); refine goesL_ (some 40) rfl rfl Tryd.func12 qg3m rfl #[.int .u32 a0_0, .int .u32 a0_1, .agg #[.int .i64 a1_0, .int .i64 a1_1, .bool a1_2, .string x614003_2], .int .i64 a0_2, .int .i64 a0_3] rfl qraq ?_; (with_reducible refine (gangwayref20_Make.calls kj2 a0_0 a0_1 a1_0 a1_1 a1_2 x614003_2 a0_2 a0_3 t616 t617 _ A12.out).mono ?_); rintro e w22 ⟨rfl, hb⟩; refine ⟨_, rfl, ?_⟩; replace BK612 := Aside0.mk (blk_below (g := gb612) q29j hb); replace BK613 := Aside0.mk (blk_below (g := gb613) qfnq hb); replace HB := Aside0.mk (below_step q213 hb); obtain ⟨hcy2_612_0, hcy2_612_1, hcy2_612_2, hcy2_612_3⟩ := cells4 BK612.out; (try clear hb); (try clear hb2); (try clear hk); (try clear hi)) | ((with_reducible refine gate_callee (f := 10) rfl ?_); refine goesL_ (some 43) rfl rfl Tryd.func10 qg3m rfl #[] rfl qraq ?_; (with_reducible refine (gangwaylaw20_fixed.calls kj2  true _ ?sideL A13.out).mono ?_); (case sideL => exact laid_below HLD.out q213); rintro e w23 ⟨rfl, hb⟩; refine ⟨_, rfl, ?_⟩; replace BK612 := Aside0.mk (blk_below (g := gb612) q29j hb); replace BK613 := Aside0.mk (blk_below (g := gb613) qfnq hb); replace HB := Aside0.mk (below_step q213 hb); obtain ⟨hcy3_612_0, hcy3_612_1, hcy3_612_2, hcy3_612_3⟩ := cells4 BK612.out; (try clear hb); (try clear hb2); (try clear hk); (try clear hi)))
     go_ret
     exact ⟨qxu5, q213⟩
    ·rw [if_neg c15] at H
     exact absurd H q6hr
   ·replace c14 := Bool.eq_false_iff.mpr c14
    subst c14
    rw [if_neg (show ¬ (false = true) by decide)] at H
    exact absurd H q6hr

end Go.Proofs.YtbkgaplldfilnaaDoor.P
