-- slim
-- Written by wip/hprint.py (this session's program) through the kit's print program; hand contracts are marked 'by hand'.
import Derived.Test.YtbkgaplldfilnaaDoorAbb
import Derived.Test.YtbkgaplldfilnaaDoorRow
import Derived.Test.YtbkgaplldfilnaaDoorPx0
import Derived.Test.YtbkgaplldfilnaaDoorPx2
import Derived.Test.YtbkgaplldfilnaaDoorPx21
import Derived.Test.YtbkgaplldfilnaaDoorPx35
import Derived.Test.YtbkgaplldfilnaaDoorPx36
namespace Go.Proofs.YtbkgaplldfilnaaDoor.P
open Go.RowKit Go.Proofs.YtbkgaplldfilnaaDoorW.PrintWords Go.Proofs.YtbkgaplldfilnaaDoorW.PrintLast Go.Proofs.YtbkgaplldfilnaaDoorW.PrintMore
attribute [local go_sem] max2_int min2_int max_two min_two max_three min_three max_four min_four   -- for this text's walks alone
set_option linter.unusedVariables false
set_option linter.unusedSimpArgs false

attribute [local go_sem high] eqA33 eqA35
/-! ### gangwaylaw20_StationBack: function 5 -/
mutual
def gangwaylaw20_StationBack.j0 : Nat → ByteArray → Int → Int → Int → Int → Int → Int → Bool → ByteArray → Option (Bool)
 | 0, _, _, _, _, _, _, _, _, _ => none
 | k + 1, x2, x620000, x620001, x620002, x620003, x621000, x621001, x621002, x621003 => if 0 ≤ (mn (x2.size : Int) 100) then (if (mn (x2.size : Int) 100) ≤ (x2.size : Int) then (gangwaylaw20_StationBack.j1 k (x2.extract 0 ((mn (x2.size : Int) 100) : Int).toNat) x620000 x620001 x620002 x620003 x621000 4789 x621002 x621003) else (none)) else (none)
def gangwaylaw20_StationBack.j1 : Nat → ByteArray → Int → Int → Int → Int → Int → Int → Bool → ByteArray → Option (Bool)
 | 0, _, _, _, _, _, _, _, _, _ => none
 | k + 1, x2, x620000, x620001, x620002, x620003, x621000, x621001, x621002, x621003 => (station_Make.f k x620000 x620001 x621000 x621001 x621002 x621003 x620002 65536).bind fun bt621 => (if bt621.2 = 0 then (if bt621.1.size + x2.size ≤ 9223372036854775807 then ((station_Take.f k 2 x620001 2 6 false 0 false 0 2048 (bt621.1 ++ x2)).bind fun bt625 => ((station_Take.f k 2 ((x620001 + 1) % 4294967296) 2 6 false 0 false 0 2048 (bt621.1 ++ x2)).bind fun bt638 => ((station_Take.f k 2 x620001 281474976710655 6 false 0 false 0 2048 (bt621.1 ++ x2)).bind fun bt651 => (if (bt625.1 == 0 && (bt625.2.1 == x620000 && ((bt625.2.2.1 == x621000 && (bt625.2.2.2.1 == x621001 && (bt625.2.2.2.2.1 == x621002 && (bt625.2.2.2.2.2.1.toList == x621003.toList))))))) = true then (if (bt625.2.2.2.2.2.2.1 == 0 && (bt625.2.2.2.2.2.2.2.1 == 0 && (bt625.2.2.2.2.2.2.2.2.1 == 0 && (bt625.2.2.2.2.2.2.2.2.2.1 == 0 && (bt625.2.2.2.2.2.2.2.2.2.2 == 0))))) = true then (if (bt651.1 == bt625.1 && (bt651.2.1 == bt625.2.1 && ((bt651.2.2.1 == bt625.2.2.1 && (bt651.2.2.2.1 == bt625.2.2.2.1 && (bt651.2.2.2.2.1 == bt625.2.2.2.2.1 && (bt651.2.2.2.2.2.1.toList == bt625.2.2.2.2.2.1.toList))))))) = true then (if (bt638.1 == 2 && (bt638.2.1 == 0 && ((bt638.2.2.1 == 0 && (bt638.2.2.2.1 == 0 && (!bt638.2.2.2.2.1 && (bt638.2.2.2.2.2.1.toList == ([] : List UInt8)))))))) = true then ((gangwaylaw20_fixed.f k).bind fun t664 => (some t664)) else (none)) else (none)) else (none)) else (none))))) else (none)) else (if bt621.1.toList = ([] : List UInt8) then ((gangwaylaw20_fixed.f k).bind fun t623 => (some t623)) else (none)))
end
def gangwaylaw20_StationBack.f (k : Nat) (a0_0 : Int) (a0_1 : Int) (a0_2 : Int) (a0_3 : Int) (a1_0 : Int) (a1_1 : Int) (a1_2 : Bool) (a1_3 : ByteArray) (a2 : ByteArray) : Option (Bool) := if 0 ≤ (mn (a1_3.size : Int) 1400) then (if (mn (a1_3.size : Int) 1400) ≤ (a1_3.size : Int) then (gangwaylaw20_StationBack.j0 k a2 a0_0 a0_1 a0_2 a0_3 a1_0 a1_1 a1_2 (a1_3.extract 0 ((mn (a1_3.size : Int) 1400) : Int).toNat)) else (none)) else (none)
theorem gangwaylaw20_StationBack.mono_l : ∀ k, (∀ y0 y1 y2 y3 y4 y5 y6 y7 y8, LeO (gangwaylaw20_StationBack.j0 k y0 y1 y2 y3 y4 y5 y6 y7 y8) (gangwaylaw20_StationBack.j0 (k + 1) y0 y1 y2 y3 y4 y5 y6 y7 y8)) ∧ (∀ y0 y1 y2 y3 y4 y5 y6 y7 y8, LeO (gangwaylaw20_StationBack.j1 k y0 y1 y2 y3 y4 y5 y6 y7 y8) (gangwaylaw20_StationBack.j1 (k + 1) y0 y1 y2 y3 y4 y5 y6 y7 y8))
 | 0 => ⟨fun _ _ _ _ _ _ _ _ _ r h => by simp [gangwaylaw20_StationBack.j0] at h, fun _ _ _ _ _ _ _ _ _ r h => by simp [gangwaylaw20_StationBack.j1] at h⟩
 | k + 1 => by
  obtain ⟨ih0, ih1⟩ := gangwaylaw20_StationBack.mono_l k
  refine ⟨?_, ?_⟩
  ·intro y0 y1 y2 y3 y4 y5 y6 y7 y8
   unfold gangwaylaw20_StationBack.j0
   repeat' first
   | (with_reducible exact ih0 _ _ _ _ _ _ _ _ _)
   | (with_reducible exact ih1 _ _ _ _ _ _ _ _ _)
   | (with_reducible exact gangwaylaw20_fixed.mono _)
   | (with_reducible exact station_Make.mono _ _ _ _ _ _ _ _ _)
   | (with_reducible exact station_Take.mono _ _ _ _ _ _ _ _ _ _ _)
   | (with_reducible exact LeO.refl _)
   | (with_reducible exact LeO.none _)
   | (with_reducible refine LeO.ite ?_ ?_)
   | (with_reducible refine LeO.bind ?_ (fun _ => ?_))
   | exact ih0 _ _ _ _ _ _ _ _ _
   | exact ih1 _ _ _ _ _ _ _ _ _
   | exact gangwaylaw20_fixed.mono _
   | exact station_Make.mono _ _ _ _ _ _ _ _ _
   | exact station_Take.mono _ _ _ _ _ _ _ _ _ _ _
   | exact LeO.none _
   | refine LeO.ite ?_ ?_
   | refine LeO.bind ?_ (fun _ => ?_)
  ·intro y0 y1 y2 y3 y4 y5 y6 y7 y8
   unfold gangwaylaw20_StationBack.j1
   repeat' first
   | (with_reducible exact ih0 _ _ _ _ _ _ _ _ _)
   | (with_reducible exact ih1 _ _ _ _ _ _ _ _ _)
   | (with_reducible exact gangwaylaw20_fixed.mono _)
   | (with_reducible exact station_Make.mono _ _ _ _ _ _ _ _ _)
   | (with_reducible exact station_Take.mono _ _ _ _ _ _ _ _ _ _ _)
   | (with_reducible exact LeO.refl _)
   | (with_reducible exact LeO.none _)
   | (with_reducible refine LeO.ite ?_ ?_)
   | (with_reducible refine LeO.bind ?_ (fun _ => ?_))
   | exact ih0 _ _ _ _ _ _ _ _ _
   | exact ih1 _ _ _ _ _ _ _ _ _
   | exact gangwaylaw20_fixed.mono _
   | exact station_Make.mono _ _ _ _ _ _ _ _ _
   | exact station_Take.mono _ _ _ _ _ _ _ _ _ _ _
   | exact LeO.none _
   | refine LeO.ite ?_ ?_
   | refine LeO.bind ?_ (fun _ => ?_)
theorem gangwaylaw20_StationBack.mono : ∀ a0 a1 a2 a3 a4 a5 a6 a7 a8 k, LeO (gangwaylaw20_StationBack.f k a0 a1 a2 a3 a4 a5 a6 a7 a8) (gangwaylaw20_StationBack.f (k + 1) a0 a1 a2 a3 a4 a5 a6 a7 a8) := by
 intro a0 a1 a2 a3 a4 a5 a6 a7 a8 k
 obtain ⟨ih0, ih1⟩ := gangwaylaw20_StationBack.mono_l k
 unfold gangwaylaw20_StationBack.f
 repeat' first
   | (with_reducible exact ih0 _ _ _ _ _ _ _ _ _)
   | (with_reducible exact ih1 _ _ _ _ _ _ _ _ _)
   | (with_reducible exact gangwaylaw20_fixed.mono _)
   | (with_reducible exact station_Make.mono _ _ _ _ _ _ _ _ _)
   | (with_reducible exact station_Take.mono _ _ _ _ _ _ _ _ _ _ _)
   | (with_reducible exact LeO.refl _)
   | (with_reducible exact LeO.none _)
   | (with_reducible refine LeO.ite ?_ ?_)
   | (with_reducible refine LeO.bind ?_ (fun _ => ?_))
   | exact ih0 _ _ _ _ _ _ _ _ _
   | exact ih1 _ _ _ _ _ _ _ _ _
   | exact gangwaylaw20_fixed.mono _
   | exact station_Make.mono _ _ _ _ _ _ _ _ _
   | exact station_Take.mono _ _ _ _ _ _ _ _ _ _ _
   | exact LeO.none _
   | refine LeO.ite ?_ ?_
   | refine LeO.bind ?_ (fun _ => ?_)
set_option maxHeartbeats 8000000 in
set_option maxRecDepth 100000 in
theorem gangwaylaw20_StationBack.calls (k : Nat) (a0_0 : Int) (a0_1 : Int) (a0_2 : Int) (a0_3 : Int) (a1_0 : Int) (a1_1 : Int) (a1_2 : Bool) (a1_3 : ByteArray) (a2 : ByteArray) (r : Bool) (w : World) (hL : Laid w) (h : gangwaylaw20_StationBack.f k a0_0 a0_1 a0_2 a0_3 a1_0 a1_1 a1_2 a1_3 a2 = some r) :
  Calls Tryd.prog 5 #[.agg #[.int .u32 a0_0, .int .u32 a0_1, .int .i64 a0_2, .int .i64 a0_3], .agg #[.int .i64 a1_0, .int .i64 a1_1, .bool a1_2, .string a1_3], .string a2] w fun e w' => e = .returned (.bool r) ∧ Below w.heap.size w w' := by
 have HLD := Aside0.mk hL
 clear hL
 have hu41 := Tryd.underlying41
 have hu31 := Tryd.underlying31
 have hu29 := Tryd.underlying29
 have hu33 := Tryd.underlying33
 have hu35 := Tryd.underlying35
 have HB := Aside0.mk (Below.refl w.heap.size w)
 have H : (if 0 ≤ (mn (a1_3.size : Int) 1400) then (if (mn (a1_3.size : Int) 1400) ≤ (a1_3.size : Int) then (gangwaylaw20_StationBack.j0 k a2 a0_0 a0_1 a0_2 a0_3 a1_0 a1_1 a1_2 (a1_3.extract 0 ((mn (a1_3.size : Int) 1400) : Int).toNat)) else (none)) else (none)) = some r := h
 clear h
 have HC4 := Aside0.mk H
 clear H
 go_enter Tryd.func5, Tryd.ntmps5
 go_upto_region 1 with (first | ((with_reducible refine gate_st (ty := 29) rfl ?_); refine storeC8 rfl rfl rfl rfl rfl qfxd qr2c qg3m rfl ?_) | ((with_reducible refine gate_ld (ty := 29) rfl ?_); (try (with_reducible refine gate_gd rfl ?_; refine gate_guard q8ju ?_; dsimp only)); refine load_st rfl rfl rfl qfxd qr2c Tryd.underlying29 rfl qg3m ?_; (try simp only [Act.put, List.setIfInBounds_toArray, List.set_cons_zero, List.set_cons_succ])) | ((with_reducible refine gate_st (ty := 33) rfl ?_); refine storeC6 rfl rfl rfl rfl rfl qfxd qr2c qg3m rfl ?_) | ((with_reducible refine gate_ld (ty := 33) rfl ?_); (try (with_reducible refine gate_gd rfl ?_; refine gate_guard q8ju ?_; dsimp only)); refine load_st rfl rfl rfl qfxd qr2c Tryd.underlying33 rfl qg3m ?_; (try simp only [Act.put, List.setIfInBounds_toArray, List.set_cons_zero, List.set_cons_succ])) | ((with_reducible refine gate_st (ty := 35) rfl ?_); refine storeC5 rfl rfl rfl rfl rfl qfxd qr2c qg3m rfl ?_) | ((with_reducible refine gate_ld (ty := 35) rfl ?_); (try (with_reducible refine gate_gd rfl ?_; refine gate_guard q8ju ?_; dsimp only)); refine load_st rfl rfl rfl qfxd qr2c Tryd.underlying35 rfl qg3m ?_; (try simp only [Act.put, List.setIfInBounds_toArray, List.set_cons_zero, List.set_cons_succ])) | ((with_reducible refine gate_dst (N := 3) rfl ?_); refine box_event qgcr (N := 3) qgcr (cs := #[.int .u32 a0_0, .int .u32 a0_1, .int .i64 a0_2, .int .i64 a0_3]) (t := 41) qlto ?_; intro gb619 hg w5 hbox hb; have BK619 := Aside0.mk (hbox); have GE619 := Aside0.mk ((qisx : w.heap.size ≤ gb619)); replace HB := Aside0.mk (below_step qpag hb); clear hb hbox hg) | ((with_reducible refine gate_dst (N := 4) rfl ?_); refine box_event qgcr (N := 4) qgcr (cs := #[.int .i64 a1_0, .int .i64 a1_1, .bool a1_2, .string a1_3]) (t := 31) qlto ?_; intro gb620 hg w6 hbox hb; have BK620 := Aside0.mk (hbox); have GE620 := Aside0.mk ((by rw [hg]; exact (below_size q0sk) : w.heap.size ≤ gb620)); have NB619_620 := Aside0.mk ((q463 : gb619 ≠ gb620)); have NB620_619 := Aside0.mk ((qzrk : gb620 ≠ gb619)); replace BK619 := Aside0.mk (blk_below (g := gb619) qwp9 hb); replace HB := Aside0.mk (below_step q0sk hb); clear hb hbox hg))
 (try simp only [Act.put, List.setIfInBounds_toArray, List.set_cons_zero, List.set_cons_succ])
 go_cut [] (fun wc => ∃ (kq : Nat) (x621003_3 : ByteArray), Aside0 (gangwaylaw20_StationBack.j0 kq a2 a0_0 a0_1 a0_2 a0_3 a1_0 a1_1 a1_2 x621003_3 = some r) ∧ Aside0 (kq ≤ k) ∧ Aside0 (wc.heap[gb619]? = some (.cells #[.int .u32 a0_0, .int .u32 a0_1, .int .i64 a0_2, .int .i64 a0_3] 41 (0, 0))) ∧ Aside0 (wc.heap[gb620]? = some (.cells #[.int .i64 a1_0, .int .i64 a1_1, .bool a1_2, .string x621003_3] 31 (0, 0))) ∧ Aside0 (Below w.heap.size w wc))
 case first =>
  have H := HC4.out
  clear HC4
  obtain ⟨ji7, hji7⟩ : ∃ j_ : Int, (mn (a1_3.size : Int) 1400) = j_ := ⟨_, rfl⟩
  replace H : (if 0 ≤ (ji7) then (if (ji7) ≤ (a1_3.size : Int) then (gangwaylaw20_StationBack.j0 k a2 a0_0 a0_1 a0_2 a0_3 a1_0 a1_1 a1_2 (a1_3.extract 0 ((ji7) : Int).toNat)) else (none)) else (none)) = some r := by first | (rw [hji7] at H; exact H) | (simp only [hji7] at H ⊢; exact H)
  (try (have hji7h : ji7 ≤ 1400 := by (rw [← hji7]; unfold mn; (repeat' split) <;> omega)))
  (try (have hji7g : ji7 ≤ 64 := by omega))
  (try (have hji7l : 0 ≤ ji7 := by (rw [← hji7]; unfold mn; (repeat' split) <;> omega)))
  (try (have hji7m : 0 ≤ ji7 := by omega))
  have hji7_ : (if 1400 < (a1_3.size : Int) then 1400 else (a1_3.size : Int)) = ji7 := hji7
  by_cases c8 : 0 ≤ (ji7)
  ·rw [if_pos c8] at H
   have c8b0 := eq_true c8
   have c8b1 : decide (0 ≤ (ji7)) = true := decide_eq_true c8
   clear c8
   by_cases c9 : (ji7) ≤ (a1_3.size : Int)
   ·rw [if_pos c9] at H
    have c9b0 := eq_true c9
    have c9b1 : decide ((ji7) ≤ (a1_3.size : Int)) = true := decide_eq_true c9
    clear c9
    have H' := Aside0.mk H
    clear H
    have hnb10 := NB620_619.out
    have hnc10 := NB619_620.out
    obtain ⟨hcz11_0, hcz11_1, hcz11_2, hcz11_3⟩ := cells4 BK620.out
    obtain ⟨hfz11_0, hfz11_1, hfz11_2, hfz11_3⟩ := frozen4 BK620.out
    go_wp2_with (first | ((with_reducible refine gate_st (ty := 29) rfl ?_); refine storeC8 rfl rfl rfl rfl rfl qfxd qr2c qg3m rfl ?_) | ((with_reducible refine gate_ld (ty := 29) rfl ?_); (try (with_reducible refine gate_gd rfl ?_; refine gate_guard q8ju ?_; dsimp only)); refine load_st rfl rfl rfl qfxd qr2c Tryd.underlying29 rfl qg3m ?_; (try simp only [Act.put, List.setIfInBounds_toArray, List.set_cons_zero, List.set_cons_succ])) | ((with_reducible refine gate_st (ty := 33) rfl ?_); refine storeC6 rfl rfl rfl rfl rfl qfxd qr2c qg3m rfl ?_) | ((with_reducible refine gate_ld (ty := 33) rfl ?_); (try (with_reducible refine gate_gd rfl ?_; refine gate_guard q8ju ?_; dsimp only)); refine load_st rfl rfl rfl qfxd qr2c Tryd.underlying33 rfl qg3m ?_; (try simp only [Act.put, List.setIfInBounds_toArray, List.set_cons_zero, List.set_cons_succ])) | ((with_reducible refine gate_st (ty := 35) rfl ?_); refine storeC5 rfl rfl rfl rfl rfl qfxd qr2c qg3m rfl ?_) | ((with_reducible refine gate_ld (ty := 35) rfl ?_); (try (with_reducible refine gate_gd rfl ?_; refine gate_guard q8ju ?_; dsimp only)); refine load_st rfl rfl rfl qfxd qr2c Tryd.underlying35 rfl qg3m ?_; (try simp only [Act.put, List.setIfInBounds_toArray, List.set_cons_zero, List.set_cons_succ])) | go_in)
    go_meet
    case rel => exact ⟨_, (a1_3.extract 0 ((ji7) : Int).toNat), H', ⟨qpfc⟩, ⟨q0pv⟩, ⟨(by (with_reducible repeat (first | refine blk_drewN ?_ _ | refine blk_drew ?_ | refine blk_alloc ?_ _)); refine blk_put (cs := #[.int .i64 a1_0, .int .i64 a1_1, .bool a1_2, .string a1_3]) ?_ 3 _ rfl; (with_reducible repeat (first | refine blk_drewN ?_ _ | refine blk_drew ?_ | refine blk_alloc ?_ _)); exact BK620.out)⟩, ⟨qtim⟩⟩
   ·rw [if_neg c9] at H
    exact absurd H q6hr
  ·rw [if_neg c8] at H
   exact absurd H q6hr
 case rest =>
  clear HC4
  try clear c1
  try clear p2
  try clear c5
  try clear c8
  try clear c8b0
  try clear c8b1
  try clear c9
  try clear c9b0
  try clear c9b1
  try clear c10
  obtain ⟨kq, x621003_3, HA, HJ3, BK619, BK620, HB⟩ := hcut
  cases kq with
  | zero => exact absurd HA.out (by simp [gangwaylaw20_StationBack.j0])
  | succ kj3 =>
   have H := HA.out
   clear HA
   simp only [gangwaylaw20_StationBack.j0] at H
   have HC12 := Aside0.mk H
   clear H
   have hnb13 := NB620_619.out
   have hnc13 := NB619_620.out
   obtain ⟨hcz14_0, hcz14_1, hcz14_2, hcz14_3⟩ := cells4 BK620.out
   obtain ⟨hfz14_0, hfz14_1, hfz14_2, hfz14_3⟩ := frozen4 BK620.out
   go_upto_region 3 with (fail)
   go_cut [2] (fun v2 wc => ∃ (kq : Nat) (x2_11 : ByteArray), v2 = .string x2_11 ∧ Aside0 (gangwaylaw20_StationBack.j1 kq x2_11 a0_0 a0_1 a0_2 a0_3 a1_0 4789 a1_2 x621003_3 = some r) ∧ Aside0 (kq ≤ kj3) ∧ Aside0 (wc.heap[gb619]? = some (.cells #[.int .u32 a0_0, .int .u32 a0_1, .int .i64 a0_2, .int .i64 a0_3] 41 (0, 0))) ∧ Aside0 (wc.heap[gb620]? = some (.cells #[.int .i64 a1_0, .int .i64 4789, .bool a1_2, .string x621003_3] 31 (0, 0))) ∧ Aside0 (Below w.heap.size w wc))
   case first =>
    have H := HC12.out
    clear HC12
    obtain ⟨ji15, hji15⟩ : ∃ j_ : Int, (mn (a2.size : Int) 100) = j_ := ⟨_, rfl⟩
    replace H : (if 0 ≤ (ji15) then (if (ji15) ≤ (a2.size : Int) then (gangwaylaw20_StationBack.j1 kj3 (a2.extract 0 ((ji15) : Int).toNat) a0_0 a0_1 a0_2 a0_3 a1_0 4789 a1_2 x621003_3) else (none)) else (none)) = some r := by first | (rw [hji15] at H; exact H) | (simp only [hji15] at H ⊢; exact H)
    have hji15_ : (if 100 < (a2.size : Int) then 100 else (a2.size : Int)) = ji15 := hji15
    by_cases c16 : 0 ≤ (ji15)
    ·rw [if_pos c16] at H
     have c16b0 := eq_true c16
     have c16b1 : decide (0 ≤ (ji15)) = true := decide_eq_true c16
     clear c16
     by_cases c17 : (ji15) ≤ (a2.size : Int)
     ·rw [if_pos c17] at H
      have c17b0 := eq_true c17
      have c17b1 : decide ((ji15) ≤ (a2.size : Int)) = true := decide_eq_true c17
      clear c17
      have H' := Aside0.mk H
      clear H
      go_wp2_with (first | ((with_reducible refine gate_st (ty := 29) rfl ?_); refine storeC8 rfl rfl rfl rfl rfl qfxd qr2c qg3m rfl ?_) | ((with_reducible refine gate_ld (ty := 29) rfl ?_); (try (with_reducible refine gate_gd rfl ?_; refine gate_guard q8ju ?_; dsimp only)); refine load_st rfl rfl rfl qfxd qr2c Tryd.underlying29 rfl qg3m ?_; (try simp only [Act.put, List.setIfInBounds_toArray, List.set_cons_zero, List.set_cons_succ])) | ((with_reducible refine gate_st (ty := 33) rfl ?_); refine storeC6 rfl rfl rfl rfl rfl qfxd qr2c qg3m rfl ?_) | ((with_reducible refine gate_ld (ty := 33) rfl ?_); (try (with_reducible refine gate_gd rfl ?_; refine gate_guard q8ju ?_; dsimp only)); refine load_st rfl rfl rfl qfxd qr2c Tryd.underlying33 rfl qg3m ?_; (try simp only [Act.put, List.setIfInBounds_toArray, List.set_cons_zero, List.set_cons_succ])) | ((with_reducible refine gate_st (ty := 35) rfl ?_); refine storeC5 rfl rfl rfl rfl rfl qfxd qr2c qg3m rfl ?_) | ((with_reducible refine gate_ld (ty := 35) rfl ?_); (try (with_reducible refine gate_gd rfl ?_; refine gate_guard q8ju ?_; dsimp only)); refine load_st rfl rfl rfl qfxd qr2c Tryd.underlying35 rfl qg3m ?_; (try simp only [Act.put, List.setIfInBounds_toArray, List.set_cons_zero, List.set_cons_succ])) | go_in)
      go_meet
      case rel => exact ⟨_, (a2.extract 0 ((ji15) : Int).toNat), (by first | rfl | (simp; done) | (simp only [← hji15] <;> (first | rfl | simp)) | (simp [*]; done)), H', ⟨q6v2⟩, ⟨q0pv⟩, ⟨(by (with_reducible repeat (first | refine blk_drewN ?_ _ | refine blk_drew ?_ | refine blk_alloc ?_ _)); refine blk_put (cs := #[.int .i64 a1_0, .int .i64 a1_1, .bool a1_2, .string x621003_3]) ?_ 1 _ rfl; (with_reducible repeat (first | refine blk_drewN ?_ _ | refine blk_drew ?_ | refine blk_alloc ?_ _)); exact BK620.out)⟩, ⟨qtim⟩⟩
     ·rw [if_neg c17] at H
      exact absurd H q6hr
    ·rw [if_neg c16] at H
     exact absurd H q6hr
   case rest =>
    clear HC12
    try clear c1
    try clear p2
    try clear c5
    try clear c8
    try clear c8b0
    try clear c8b1
    try clear c9
    try clear c9b0
    try clear c9b1
    try clear c10
    try clear c13
    try clear c16
    try clear c16b0
    try clear c16b1
    try clear c17
    try clear c17b0
    try clear c17b1
    try clear p2
    obtain ⟨kq, x2_11, rfl, HA, HJ11, BK619, BK620, HB⟩ := hcut
    cases kq with
    | zero => exact absurd HA.out (by simp [gangwaylaw20_StationBack.j1])
    | succ kj11 =>
     have H := HA.out
     clear HA
     simp only [gangwaylaw20_StationBack.j1] at H
     replace H := Option.bind_eq_some_iff.mp H
     obtain ⟨⟨t621, t622⟩, A180, H⟩ := H
     try dsimp only at H
     have A18 := Aside0.mk A180
     clear A180
     by_cases c19 : t622 = 0
     ·rw [if_pos c19] at H
      have c19b0 : (t622 == 0) = true := beq_iff_eq.mpr c19
      have c19b1 : (t622 != 0) = false := bne_eq_false_iff_eq.mpr c19
      clear c19
      by_cases c20 : t621.size + x2_11.size ≤ 9223372036854775807
      ·rw [if_pos c20] at H
       have c20b0 := eq_true c20
       have c20b1 : decide (t621.size + x2_11.size ≤ 9223372036854775807) = true := decide_eq_true c20
       try have c20b2 : (9223372036854775807 < t621.size + x2_11.size) = False := eq_false (Nat.not_lt.2 c20)
       replace H := Option.bind_eq_some_iff.mp H
       obtain ⟨⟨t625, t626, t627, t628, t629, t630, t631, t632, t633, t634, t635⟩, A210, H⟩ := H
       try dsimp only at H
       have A21 := Aside0.mk A210
       clear A210
       replace H := Option.bind_eq_some_iff.mp H
       obtain ⟨⟨t638, t639, t640, t641, t642, t643, t644, t645, t646, t647, t648⟩, A220, H⟩ := H
       try dsimp only at H
       have A22 := Aside0.mk A220
       clear A220
       replace H := Option.bind_eq_some_iff.mp H
       obtain ⟨⟨t651, t652, t653, t654, t655, t656, t657, t658, t659, t660, t661⟩, A230, H⟩ := H
       try dsimp only at H
       have A23 := Aside0.mk A230
       clear A230
       by_cases c24 : (t625 == 0 && (t626 == a0_0 && ((t627 == a1_0 && (t628 == 4789 && (t629 == a1_2 && (t630.toList == x621003_3.toList))))))) = true
       ·rw [if_pos c24] at H
        have c24b0 : (t625 == 0 && (t626 == a0_0 && ((t627 == a1_0 && (t628 == 4789 && (t629 == a1_2 && (t630.toList == x621003_3.toList))))))) = true := c24
        try (have c24p := eq_true (show t625 = 0 ∧ (t626 = a0_0 ∧ ((t627 = a1_0 ∧ (t628 = 4789 ∧ (t629 = a1_2 ∧ (t630.toList = x621003_3.toList)))))) from by simpa using c24))
        (try (have c24b1 : decide (t625 = 0 && (t626 == a0_0 && ((t627 == a1_0 && (t628 == 4789 && (t629 == a1_2 && (t630.toList == x621003_3.toList))))))) = true := by simpa using c24))
        (try (have c24b2 : (t625 == 0 && (t626 == a0_0 && ((t627 == a1_0 && (t628 == 4789 && (t629 == a1_2 && (t630.toList == x621003_3.toList))))))) = true := by simpa using c24))
        clear c24
        by_cases c25 : (t631 == 0 && (t632 == 0 && (t633 == 0 && (t634 == 0 && (t635 == 0))))) = true
        ·rw [if_pos c25] at H
         have c25b0 : (t631 == 0 && (t632 == 0 && (t633 == 0 && (t634 == 0 && (t635 == 0))))) = true := c25
         (try (have c25b1 : decide (t631 = 0 && (t632 == 0 && (t633 == 0 && (t634 == 0 && (t635 == 0))))) = true := by simpa using c25))
         (try (have c25b2 : (t631 == 0 && (t632 == 0 && (t633 == 0 && (t634 == 0 && (t635 == 0))))) = true := by simpa using c25))
         clear c25
         by_cases c26 : (t651 == t625 && (t652 == t626 && ((t653 == t627 && (t654 == t628 && (t655 == t629 && (t656.toList == t630.toList))))))) = true
         ·rw [if_pos c26] at H
          have c26b0 : (t651 == t625 && (t652 == t626 && ((t653 == t627 && (t654 == t628 && (t655 == t629 && (t656.toList == t630.toList))))))) = true := c26
          try (have c26p := eq_true (show t651 = t625 ∧ (t652 = t626 ∧ ((t653 = t627 ∧ (t654 = t628 ∧ (t655 = t629 ∧ (t656.toList = t630.toList)))))) from by simpa using c26))
          (try (have c26b1 : decide (t651 = t625 && (t652 == t626 && ((t653 == t627 && (t654 == t628 && (t655 == t629 && (t656.toList == t630.toList))))))) = true := by simpa using c26))
          (try (have c26b2 : (t651 == t625 && (t652 == t626 && ((t653 == t627 && (t654 == t628 && (t655 == t629 && (t656.toList == t630.toList))))))) = true := by simpa using c26))
          clear c26
          by_cases c27 : (t638 == 2 && (t639 == 0 && ((t640 == 0 && (t641 == 0 && (!t642 && (t643.toList == ([] : List UInt8)))))))) = true
          ·rw [if_pos c27] at H
           have c27b0 : (t638 == 2 && (t639 == 0 && ((t640 == 0 && (t641 == 0 && (!t642 && (t643.toList == ([] : List UInt8)))))))) = true := c27
           try (have c27p := eq_true (show t638 = 2 ∧ (t639 = 0 ∧ ((t640 = 0 ∧ (t641 = 0 ∧ (t642 = false ∧ (t643.toList = ([] : List UInt8))))))) from by simpa using c27))
           (try (have c27b1 : decide (t638 = 2 && (t639 == 0 && ((t640 == 0 && (t641 == 0 && (!t642 && (t643.toList == ([] : List UInt8)))))))) = true := by simpa using c27))
           (try (have c27b2 : (t638 == 2 && (t639 == 0 && ((t640 == 0 && (t641 == 0 && (!t642 && (t643.toList == ([] : List UInt8)))))))) = true := by simpa using c27))
           clear c27
           replace H := Option.bind_eq_some_iff.mp H
           obtain ⟨t664, A280, H⟩ := H
           try dsimp only at H
           have A28 := Aside0.mk A280
           clear A280
           obtain rfl := Option.some.inj H
           have hnb29 := NB619_620.out
           have hnc29 := NB620_619.out
           obtain ⟨hcz30_0, hcz30_1, hcz30_2, hcz30_3⟩ := cells4 BK619.out
           obtain ⟨hfz30_0, hfz30_1, hfz30_2, hfz30_3⟩ := frozen4 BK619.out
           obtain ⟨hcz31_0, hcz31_1, hcz31_2, hcz31_3⟩ := cells4 BK620.out
           obtain ⟨hfz31_0, hfz31_1, hfz31_2, hfz31_3⟩ := frozen4 BK620.out
           go_wp2_with (first | ((with_reducible refine gate_st (ty := 29) rfl ?_); refine storeC8 rfl rfl rfl rfl rfl qfxd qr2c qg3m rfl ?_) | ((with_reducible refine gate_ld (ty := 29) rfl ?_); (try (with_reducible refine gate_gd rfl ?_; refine gate_guard q8ju ?_; dsimp only)); refine load_st rfl rfl rfl qfxd qr2c Tryd.underlying29 rfl qg3m ?_; (try simp only [Act.put, List.setIfInBounds_toArray, List.set_cons_zero, List.set_cons_succ])) | ((with_reducible refine gate_st (ty := 33) rfl ?_); refine storeC6 rfl rfl rfl rfl rfl qfxd qr2c qg3m rfl ?_) | ((with_reducible refine gate_ld (ty := 33) rfl ?_); (try (with_reducible refine gate_gd rfl ?_; refine gate_guard q8ju ?_; dsimp only)); refine load_st rfl rfl rfl qfxd qr2c Tryd.underlying33 rfl qg3m ?_; (try simp only [Act.put, List.setIfInBounds_toArray, List.set_cons_zero, List.set_cons_succ])) | ((with_reducible refine gate_st (ty := 35) rfl ?_); refine storeC5 rfl rfl rfl rfl rfl qfxd qr2c qg3m rfl ?_) | ((with_reducible refine gate_ld (ty := 35) rfl ?_); (try (with_reducible refine gate_gd rfl ?_; refine gate_guard q8ju ?_; dsimp only)); refine load_st rfl rfl rfl qfxd qr2c Tryd.underlying35 rfl qg3m ?_; (try simp only [Act.put, List.setIfInBounds_toArray, List.set_cons_zero, List.set_cons_succ])) | ((with_reducible refine gate_callee (f := 11) rfl ?_); refine goesL_ (some 38) rfl rfl Tryd.func11 qg3m rfl #[.int .u32 a0_0, .int .u32 a0_1, .agg #[.int .i64 a1_0, .int .i64 4789, .bool a1_2, .string x621003_3], .int .i64 a0_2, .int .i64 65536] rfl qraq ?_; (with_reducible refine (station_Make.calls kj11 a0_0 a0_1 a1_0 4789 a1_2 x621003_3 a0_2 65536 t621 t622 _ A18.out).mono ?_); rintro e w32 ⟨rfl, hb⟩; refine ⟨_, rfl, ?_⟩; replace BK619 := Aside0.mk (blk_below (g := gb619) qwp9 hb); replace BK620 := Aside0.mk (blk_below (g := gb620) q1ry hb); replace HB := Aside0.mk (below_step qtim hb); obtain ⟨hcy1_619_0, hcy1_619_1, hcy1_619_2, hcy1_619_3⟩ := cells4 BK619.out; (try clear hb); (try clear hb2); (try clear hk); (try clear hi)) | ((with_reducible refine gate_dst (N := 9) rfl ?_); refine box_event qgcr (N := 9) qgcr (cs := #[.int .u64 0, .int .u64 0, .bool false, .int .i64 0, .bool false, .int .i64 0, .int .i64 0, .string (⟨#[]⟩ : ByteArray)]) (t := 29) qlto ?_; intro gb624 hg w33 hbox hb; have BK624 := Aside0.mk (hbox); have GE624 := Aside0.mk ((by rw [hg]; exact (below_size qtim) : w.heap.size ≤ gb624)); have NB619_624 := Aside0.mk ((q463 : gb619 ≠ gb624)); have NB624_619 := Aside0.mk ((qzrk : gb624 ≠ gb619)); have NB620_624 := Aside0.mk ((q0h3 : gb620 ≠ gb624)); have NB624_620 := Aside0.mk ((qxyd : gb624 ≠ gb620)); replace BK619 := Aside0.mk (blk_below (g := gb619) qwp9 hb); replace BK620 := Aside0.mk (blk_below (g := gb620) q1ry hb); replace HB := Aside0.mk (below_step qtim hb); clear hb hbox hg; have hnb34 := NB624_619.out; have hnc34 := NB619_624.out; have hnb35 := NB624_620.out; have hnc35 := NB620_624.out; obtain ⟨hcz36_0, hcz36_1, hcz36_2, hcz36_3, hcz36_4, hcz36_5, hcz36_6, hcz36_7⟩ := cells8 BK624.out; obtain ⟨hfz36_0, hfz36_1, hfz36_2, hfz36_3, hfz36_4, hfz36_5, hfz36_6, hfz36_7⟩ := frozen8 BK624.out; obtain ⟨hcz37_0, hcz37_1, hcz37_2, hcz37_3⟩ := cells4 BK619.out; obtain ⟨hfz37_0, hfz37_1, hfz37_2, hfz37_3⟩ := frozen4 BK619.out) | ((with_reducible refine gate_callee (f := 8) rfl ?_); refine goesL_ (some 56) rfl rfl Tryd.func8 qg3m rfl #[.int .u64 2, .int .u32 a0_1, .agg #[.int .u64 2, .int .u64 6, .bool false, .int .i64 0, .bool false, .int .i64 0, .int .i64 2048, .string (t621 ++ x2_11)]] rfl qraq ?_; (with_reducible refine (station_Take.calls kj11 2 a0_1 2 6 false 0 false 0 2048 (t621 ++ x2_11) t625 t626 t627 t628 t629 t630 t631 t632 t633 t634 t635 _ ?sideL A21.out).mono ?_); (case sideL => exact laid_below HLD.out q8ss); rintro e w38 ⟨rfl, hb⟩; refine ⟨_, rfl, ?_⟩; replace BK619 := Aside0.mk (blk_below (g := gb619) (o := .cells #[.int .u32 a0_0, .int .u32 a0_1, .int .i64 a0_2, .int .i64 a0_3] 41 (0, 0)) (by (with_reducible repeat (first | refine blk_drewN ?_ _ | refine blk_drew ?_ | refine blk_alloc ?_ _ | refine blk_far ?_ NB619_624.out _)); exact BK619.out) hb); replace BK620 := Aside0.mk (blk_below (g := gb620) (o := .cells #[.int .i64 a1_0, .int .i64 4789, .bool a1_2, .string x621003_3] 31 (0, 0)) (by (with_reducible repeat (first | refine blk_drewN ?_ _ | refine blk_drew ?_ | refine blk_alloc ?_ _ | refine blk_far ?_ NB620_624.out _)); exact BK620.out) hb); replace BK624 := Aside0.mk (blk_below (g := gb624) (o := .cells #[.int .u64 2, .int .u64 6, .bool false, .int .i64 0, .bool false, .int .i64 0, .int .i64 2048, .string (t621 ++ x2_11)] 29 (0, 0)) (by (with_reducible repeat (first | refine blk_drewN ?_ _ | refine blk_drew ?_ | refine blk_alloc ?_ _)); exact put8_0_8 q2dw) hb); replace HB := Aside0.mk (below_step q8ss hb); obtain ⟨hcy3_619_0, hcy3_619_1, hcy3_619_2, hcy3_619_3⟩ := cells4 BK619.out; (try clear hb); (try clear hb2); (try clear hk); (try clear hi)) | ((with_reducible refine gate_dst (N := 10) rfl ?_); refine box_event qgcr (N := 10) qgcr (cs := #[.int .i64 0, .int .u32 0, .int .i64 0, .int .i64 0, .bool false, .string (⟨#[]⟩ : ByteArray)]) (t := 33) qlto ?_; intro gb636 hg w39 hbox hb; have BK636 := Aside0.mk (hbox); have GE636 := Aside0.mk ((by rw [hg]; exact (below_size q8ss) : w.heap.size ≤ gb636)); have NB619_636 := Aside0.mk ((q463 : gb619 ≠ gb636)); have NB636_619 := Aside0.mk ((qzrk : gb636 ≠ gb619)); have NB620_636 := Aside0.mk ((q0h3 : gb620 ≠ gb636)); have NB636_620 := Aside0.mk ((qxyd : gb636 ≠ gb620)); have NB624_636 := Aside0.mk ((q0um : gb624 ≠ gb636)); have NB636_624 := Aside0.mk ((qnlq : gb636 ≠ gb624)); replace BK619 := Aside0.mk (blk_below (g := gb619) qwp9 hb); replace BK620 := Aside0.mk (blk_below (g := gb620) q1ry hb); replace BK624 := Aside0.mk (blk_below (g := gb624) q2dw hb); replace HB := Aside0.mk (below_step q8ss hb); obtain ⟨hcy4_619_0, hcy4_619_1, hcy4_619_2, hcy4_619_3⟩ := cells4 BK619.out; clear hb hbox hg) | ((with_reducible refine gate_dst (N := 11) rfl ?_); refine box_event qgcr (N := 11) qgcr (cs := #[.int .i64 0, .int .u64 0, .int .u32 0, .int .u64 0, .int .u32 0]) (t := 35) qlto ?_; intro gb637 hg w40 hbox hb; have BK637 := Aside0.mk (hbox); have GE637 := Aside0.mk ((by rw [hg]; exact (below_size qmco) : w.heap.size ≤ gb637)); have NB619_637 := Aside0.mk ((q463 : gb619 ≠ gb637)); have NB637_619 := Aside0.mk ((qzrk : gb637 ≠ gb619)); have NB620_637 := Aside0.mk ((q0h3 : gb620 ≠ gb637)); have NB637_620 := Aside0.mk ((qxyd : gb637 ≠ gb620)); have NB624_637 := Aside0.mk ((q0um : gb624 ≠ gb637)); have NB637_624 := Aside0.mk ((qnlq : gb637 ≠ gb624)); have NB636_637 := Aside0.mk ((qewa : gb636 ≠ gb637)); have NB637_636 := Aside0.mk ((q7lv : gb637 ≠ gb636)); replace BK619 := Aside0.mk (blk_below (g := gb619) qwp9 hb); replace BK620 := Aside0.mk (blk_below (g := gb620) q1ry hb); replace BK624 := Aside0.mk (blk_below (g := gb624) q2dw hb); replace BK636 := Aside0.mk (blk_below (g := gb636) qzev hb); replace HB := Aside0.mk (below_step qmco hb); clear hb hbox hg; have hnb41 := NB636_619.out; have hnc41 := NB619_636.out; have hnb42 := NB636_620.out; have hnc42 := NB620_636.out; have hnb43 := NB636_624.out; have hnc43 := NB624_636.out; have hnb44 := NB636_637.out; have hnc44 := NB637_636.out; obtain ⟨hcz45_0, hcz45_1, hcz45_2, hcz45_3, hcz45_4, hcz45_5⟩ := cells6 BK636.out; obtain ⟨hfz45_0, hfz45_1, hfz45_2, hfz45_3, hfz45_4, hfz45_5⟩ := frozen6 BK636.out; have hnb46 := NB637_619.out; have hnc46 := NB619_637.out; have hnb47 := NB637_620.out; have hnc47 := NB620_637.out; have hnb48 := NB637_624.out; have hnc48 := NB624_637.out; obtain ⟨hcz49_0, hcz49_1, hcz49_2, hcz49_3, hcz49_4⟩ := cells5 BK637.out; obtain ⟨hfz49_0, hfz49_1, hfz49_2, hfz49_3, hfz49_4⟩ := frozen5 BK637.out; obtain ⟨hcz50_0, hcz50_1, hcz50_2, hcz50_3⟩ := cells4 BK619.out; obtain ⟨hfz50_0, hfz50_1, hfz50_2, hfz50_3⟩ := frozen4 BK619.out; obtain ⟨hcz51_0, hcz51_1, hcz51_2, hcz51_3, hcz51_4, hcz51_5, hcz51_6, hcz51_7⟩ := cells8 BK624.out; obtain ⟨hfz51_0, hfz51_1, hfz51_2, hfz51_3, hfz51_4, hfz51_5, hfz51_6, hfz51_7⟩ := frozen8 BK624.out) | ((with_reducible refine gate_callee (f := 8) rfl ?_); refine goesL_ (some 64) rfl rfl Tryd.func8 qg3m rfl #[.int .u64 2, .int .u32 ((a0_1 + 1) % 4294967296), .agg #[.int .u64 2, .int .u64 6, .bool false, .int .i64 0, .bool false, .int .i64 0, .int .i64 2048, .string (t621 ++ x2_11)]] rfl qraq ?_; (with_reducible refine (station_Take.calls kj11 2 ((a0_1 + 1) % 4294967296) 2 6 false 0 false 0 2048 (t621 ++ x2_11) t638 t639 t640 t641 t642 t643 t644 t645 t646 t647 t648 _ ?sideL A22.out).mono ?_); (case sideL => exact laid_below HLD.out qmfd); rintro e w52 ⟨rfl, hb⟩; refine ⟨_, rfl, ?_⟩; replace BK619 := Aside0.mk (blk_below (g := gb619) (o := .cells #[.int .u32 a0_0, .int .u32 a0_1, .int .i64 a0_2, .int .i64 a0_3] 41 (0, 0)) (by (with_reducible repeat (first | refine blk_drewN ?_ _ | refine blk_drew ?_ | refine blk_alloc ?_ _ | refine blk_far ?_ NB619_637.out _ | refine blk_far ?_ NB619_636.out _)); exact BK619.out) hb); replace BK620 := Aside0.mk (blk_below (g := gb620) (o := .cells #[.int .i64 a1_0, .int .i64 4789, .bool a1_2, .string x621003_3] 31 (0, 0)) (by (with_reducible repeat (first | refine blk_drewN ?_ _ | refine blk_drew ?_ | refine blk_alloc ?_ _ | refine blk_far ?_ NB620_637.out _ | refine blk_far ?_ NB620_636.out _)); exact BK620.out) hb); replace BK624 := Aside0.mk (blk_below (g := gb624) (o := .cells #[.int .u64 2, .int .u64 6, .bool false, .int .i64 0, .bool false, .int .i64 0, .int .i64 2048, .string (t621 ++ x2_11)] 29 (0, 0)) (by (with_reducible repeat (first | refine blk_drewN ?_ _ | refine blk_drew ?_ | refine blk_alloc ?_ _ | refine blk_far ?_ NB624_637.out _ | refine blk_far ?_ NB624_636.out _)); exact BK624.out) hb); replace BK636 := Aside0.mk (blk_below (g := gb636) (o := .cells #[.int .i64 t625, .int .u32 t626, .int .i64 t627, .int .i64 t628, .bool t629, .string t630] 33 (0, 0)) (by (with_reducible repeat (first | refine blk_drewN ?_ _ | refine blk_drew ?_ | refine blk_alloc ?_ _ | refine blk_far ?_ NB636_637.out _)); exact (put6_0_6 qzev)) hb); replace BK637 := Aside0.mk (blk_below (g := gb637) (o := .cells #[.int .i64 t631, .int .u64 t632, .int .u32 t633, .int .u64 t634, .int .u32 t635] 35 (0, 0)) (by (with_reducible repeat (first | refine blk_drewN ?_ _ | refine blk_drew ?_ | refine blk_alloc ?_ _)); exact put5_0_5 (by (with_reducible repeat (first | refine blk_drewN ?_ _ | refine blk_drew ?_ | refine blk_alloc ?_ _ | refine blk_far ?_ NB637_636.out _)); exact BK637.out)) hb); replace HB := Aside0.mk (below_step qmfd hb); obtain ⟨hcy6_619_0, hcy6_619_1, hcy6_619_2, hcy6_619_3⟩ := cells4 BK619.out; (try clear hb); (try clear hb2); (try clear hk); (try clear hi)) | ((with_reducible refine gate_dst (N := 12) rfl ?_); refine box_event qgcr (N := 12) qgcr (cs := #[.int .i64 0, .int .u32 0, .int .i64 0, .int .i64 0, .bool false, .string (⟨#[]⟩ : ByteArray)]) (t := 33) qlto ?_; intro gb649 hg w53 hbox hb; have BK649 := Aside0.mk (hbox); have GE649 := Aside0.mk ((by rw [hg]; exact (below_size qmfd) : w.heap.size ≤ gb649)); have NB619_649 := Aside0.mk ((q463 : gb619 ≠ gb649)); have NB649_619 := Aside0.mk ((qzrk : gb649 ≠ gb619)); have NB620_649 := Aside0.mk ((q0h3 : gb620 ≠ gb649)); have NB649_620 := Aside0.mk ((qxyd : gb649 ≠ gb620)); have NB624_649 := Aside0.mk ((q0um : gb624 ≠ gb649)); have NB649_624 := Aside0.mk ((qnlq : gb649 ≠ gb624)); have NB636_649 := Aside0.mk ((qewa : gb636 ≠ gb649)); have NB649_636 := Aside0.mk ((q7lv : gb649 ≠ gb636)); have NB637_649 := Aside0.mk ((qjv5 : gb637 ≠ gb649)); have NB649_637 := Aside0.mk ((qzrt : gb649 ≠ gb637)); replace BK619 := Aside0.mk (blk_below (g := gb619) qwp9 hb); replace BK620 := Aside0.mk (blk_below (g := gb620) q1ry hb); replace BK624 := Aside0.mk (blk_below (g := gb624) q2dw hb); replace BK636 := Aside0.mk (blk_below (g := gb636) qzev hb); replace BK637 := Aside0.mk (blk_below (g := gb637) qj88 hb); replace HB := Aside0.mk (below_step qmfd hb); obtain ⟨hcy7_619_0, hcy7_619_1, hcy7_619_2, hcy7_619_3⟩ := cells4 BK619.out; clear hb hbox hg) | ((with_reducible refine gate_dst (N := 13) rfl ?_); refine box_event qgcr (N := 13) qgcr (cs := #[.int .i64 0, .int .u64 0, .int .u32 0, .int .u64 0, .int .u32 0]) (t := 35) qlto ?_; intro gb650 hg w54 hbox hb; have BK650 := Aside0.mk (hbox); have GE650 := Aside0.mk ((by rw [hg]; exact (below_size q19l) : w.heap.size ≤ gb650)); have NB619_650 := Aside0.mk ((q463 : gb619 ≠ gb650)); have NB650_619 := Aside0.mk ((qzrk : gb650 ≠ gb619)); have NB620_650 := Aside0.mk ((q0h3 : gb620 ≠ gb650)); have NB650_620 := Aside0.mk ((qxyd : gb650 ≠ gb620)); have NB624_650 := Aside0.mk ((q0um : gb624 ≠ gb650)); have NB650_624 := Aside0.mk ((qnlq : gb650 ≠ gb624)); have NB636_650 := Aside0.mk ((qewa : gb636 ≠ gb650)); have NB650_636 := Aside0.mk ((q7lv : gb650 ≠ gb636)); have NB637_650 := Aside0.mk ((qjv5 : gb637 ≠ gb650)); have NB650_637 := Aside0.mk ((qzrt : gb650 ≠ gb637)); have NB649_650 := Aside0.mk ((by rw [hg]; exact Nat.ne_of_lt (blk_lt (g := gb649) qwpr) : gb649 ≠ gb650)); have NB650_649 := Aside0.mk ((by rw [hg]; exact Nat.ne_of_gt (blk_lt (g := gb649) qwpr) : gb650 ≠ gb649)); replace BK619 := Aside0.mk (blk_below (g := gb619) qwp9 hb); replace BK620 := Aside0.mk (blk_below (g := gb620) q1ry hb); replace BK624 := Aside0.mk (blk_below (g := gb624) q2dw hb); replace BK636 := Aside0.mk (blk_below (g := gb636) qzev hb); replace BK637 := Aside0.mk (blk_below (g := gb637) qj88 hb); replace BK649 := Aside0.mk (blk_below (g := gb649) qwpr hb); replace HB := Aside0.mk (below_step q19l hb); clear hb hbox hg; have hnb55 := NB649_619.out; have hnc55 := NB619_649.out; have hnb56 := NB649_620.out; have hnc56 := NB620_649.out; have hnb57 := NB649_624.out; have hnc57 := NB624_649.out; have hnb58 := NB649_636.out; have hnc58 := NB636_649.out; have hnb59 := NB649_637.out; have hnc59 := NB637_649.out; have hnb60 := NB649_650.out; have hnc60 := NB650_649.out; obtain ⟨hcz61_0, hcz61_1, hcz61_2, hcz61_3, hcz61_4, hcz61_5⟩ := cells6 BK649.out; obtain ⟨hfz61_0, hfz61_1, hfz61_2, hfz61_3, hfz61_4, hfz61_5⟩ := frozen6 BK649.out; have hnb62 := NB650_619.out; have hnc62 := NB619_650.out; have hnb63 := NB650_620.out; have hnc63 := NB620_650.out; have hnb64 := NB650_624.out; have hnc64 := NB624_650.out; have hnb65 := NB650_636.out; have hnc65 := NB636_650.out; have hnb66 := NB650_637.out; have hnc66 := NB637_650.out; obtain ⟨hcz67_0, hcz67_1, hcz67_2, hcz67_3, hcz67_4⟩ := cells5 BK650.out; obtain ⟨hfz67_0, hfz67_1, hfz67_2, hfz67_3, hfz67_4⟩ := frozen5 BK650.out; obtain ⟨hcz68_0, hcz68_1, hcz68_2, hcz68_3, hcz68_4, hcz68_5, hcz68_6, hcz68_7⟩ := cells8 BK624.out; obtain ⟨hfz68_0, hfz68_1, hfz68_2, hfz68_3, hfz68_4, hfz68_5, hfz68_6, hfz68_7⟩ := frozen8 BK624.out; obtain ⟨hcz69_0, hcz69_1, hcz69_2, hcz69_3⟩ := cells4 BK619.out; obtain ⟨hfz69_0, hfz69_1, hfz69_2, hfz69_3⟩ := frozen4 BK619.out) | ((with_reducible refine gate_callee (f := 8) rfl ?_); refine goesL_ (some 72) rfl rfl Tryd.func8 qg3m rfl #[.int .u64 2, .int .u32 a0_1, .agg #[.int .u64 281474976710655, .int .u64 6, .bool false, .int .i64 0, .bool false, .int .i64 0, .int .i64 2048, .string (t621 ++ x2_11)]] rfl qraq ?_; (with_reducible refine (station_Take.calls kj11 2 a0_1 281474976710655 6 false 0 false 0 2048 (t621 ++ x2_11) t651 t652 t653 t654 t655 t656 t657 t658 t659 t660 t661 _ ?sideL A23.out).mono ?_); (case sideL => exact laid_below HLD.out quq9); rintro e w70 ⟨rfl, hb⟩; refine ⟨_, rfl, ?_⟩; replace BK619 := Aside0.mk (blk_below (g := gb619) (o := .cells #[.int .u32 a0_0, .int .u32 a0_1, .int .i64 a0_2, .int .i64 a0_3] 41 (0, 0)) (by (with_reducible repeat (first | refine blk_drewN ?_ _ | refine blk_drew ?_ | refine blk_alloc ?_ _ | refine blk_far ?_ NB619_624.out _ | refine blk_far ?_ NB619_650.out _ | refine blk_far ?_ NB619_649.out _)); exact BK619.out) hb); replace BK620 := Aside0.mk (blk_below (g := gb620) (o := .cells #[.int .i64 a1_0, .int .i64 4789, .bool a1_2, .string x621003_3] 31 (0, 0)) (by (with_reducible repeat (first | refine blk_drewN ?_ _ | refine blk_drew ?_ | refine blk_alloc ?_ _ | refine blk_far ?_ NB620_624.out _ | refine blk_far ?_ NB620_650.out _ | refine blk_far ?_ NB620_649.out _)); exact BK620.out) hb); replace BK624 := Aside0.mk (blk_below (g := gb624) (o := .cells #[.int .u64 281474976710655, .int .u64 6, .bool false, .int .i64 0, .bool false, .int .i64 0, .int .i64 2048, .string (t621 ++ x2_11)] 29 (0, 0)) (by (with_reducible repeat (first | refine blk_drewN ?_ _ | refine blk_drew ?_ | refine blk_alloc ?_ _)); refine blk_put (cs := #[.int .u64 2, .int .u64 6, .bool false, .int .i64 0, .bool false, .int .i64 0, .int .i64 2048, .string (t621 ++ x2_11)]) ?_ 0 _ rfl; (with_reducible repeat (first | refine blk_drewN ?_ _ | refine blk_drew ?_ | refine blk_alloc ?_ _ | refine blk_far ?_ NB624_650.out _ | refine blk_far ?_ NB624_649.out _)); exact BK624.out) hb); replace BK636 := Aside0.mk (blk_below (g := gb636) (o := .cells #[.int .i64 t625, .int .u32 t626, .int .i64 t627, .int .i64 t628, .bool t629, .string t630] 33 (0, 0)) (by (with_reducible repeat (first | refine blk_drewN ?_ _ | refine blk_drew ?_ | refine blk_alloc ?_ _ | refine blk_far ?_ NB636_624.out _ | refine blk_far ?_ NB636_650.out _ | refine blk_far ?_ NB636_649.out _)); exact BK636.out) hb); replace BK637 := Aside0.mk (blk_below (g := gb637) (o := .cells #[.int .i64 t631, .int .u64 t632, .int .u32 t633, .int .u64 t634, .int .u32 t635] 35 (0, 0)) (by (with_reducible repeat (first | refine blk_drewN ?_ _ | refine blk_drew ?_ | refine blk_alloc ?_ _ | refine blk_far ?_ NB637_624.out _ | refine blk_far ?_ NB637_650.out _ | refine blk_far ?_ NB637_649.out _)); exact BK637.out) hb); replace BK649 := Aside0.mk (blk_below (g := gb649) (o := .cells #[.int .i64 t638, .int .u32 t639, .int .i64 t640, .int .i64 t641, .bool t642, .string t643] 33 (0, 0)) (by (with_reducible repeat (first | refine blk_drewN ?_ _ | refine blk_drew ?_ | refine blk_alloc ?_ _ | refine blk_far ?_ NB649_624.out _ | refine blk_far ?_ NB649_650.out _)); exact (put6_0_6 qwpr)) hb); replace BK650 := Aside0.mk (blk_below (g := gb650) (o := .cells #[.int .i64 t644, .int .u64 t645, .int .u32 t646, .int .u64 t647, .int .u32 t648] 35 (0, 0)) (by (with_reducible repeat (first | refine blk_drewN ?_ _ | refine blk_drew ?_ | refine blk_alloc ?_ _ | refine blk_far ?_ NB650_624.out _)); exact put5_0_5 (by (with_reducible repeat (first | refine blk_drewN ?_ _ | refine blk_drew ?_ | refine blk_alloc ?_ _ | refine blk_far ?_ NB650_649.out _)); exact BK650.out)) hb); replace HB := Aside0.mk (below_step quq9 hb); obtain ⟨hcy9_619_0, hcy9_619_1, hcy9_619_2, hcy9_619_3⟩ := cells4 BK619.out; (try clear hb); (try clear hb2); (try clear hk); (try clear hi)) | ((with_reducible refine gate_dst (N := 14) rfl ?_); refine box_event qgcr (N := 14) qgcr (cs := #[.int .i64 0, .int .u32 0, .int .i64 0, .int .i64 0, .bool false, .string (⟨#[]⟩ : ByteArray)]) (t := 33) qlto ?_; intro gb662 hg w71 hbox hb; have BK662 := Aside0.mk (hbox); have GE662 := Aside0.mk ((by rw [hg]; exact (below_size quq9) : w.heap.size ≤ gb662)); have NB619_662 := Aside0.mk ((q463 : gb619 ≠ gb662)); have NB662_619 := Aside0.mk ((qzrk : gb662 ≠ gb619)); have NB620_662 := Aside0.mk ((q0h3 : gb620 ≠ gb662)); have NB662_620 := Aside0.mk ((qxyd : gb662 ≠ gb620)); have NB624_662 := Aside0.mk ((q0um : gb624 ≠ gb662)); have NB662_624 := Aside0.mk ((qnlq : gb662 ≠ gb624)); have NB636_662 := Aside0.mk ((qewa : gb636 ≠ gb662)); have NB662_636 := Aside0.mk ((q7lv : gb662 ≠ gb636)); have NB637_662 := Aside0.mk ((qjv5 : gb637 ≠ gb662)); have NB662_637 := Aside0.mk ((qzrt : gb662 ≠ gb637)); have NB649_662 := Aside0.mk ((by rw [hg]; exact Nat.ne_of_lt (blk_lt (g := gb649) qwpr) : gb649 ≠ gb662)); have NB662_649 := Aside0.mk ((by rw [hg]; exact Nat.ne_of_gt (blk_lt (g := gb649) qwpr) : gb662 ≠ gb649)); have NB650_662 := Aside0.mk ((by rw [hg]; exact Nat.ne_of_lt (blk_lt (g := gb650) qesg) : gb650 ≠ gb662)); have NB662_650 := Aside0.mk ((by rw [hg]; exact Nat.ne_of_gt (blk_lt (g := gb650) qesg) : gb662 ≠ gb650)); replace BK619 := Aside0.mk (blk_below (g := gb619) qwp9 hb); replace BK620 := Aside0.mk (blk_below (g := gb620) q1ry hb); replace BK624 := Aside0.mk (blk_below (g := gb624) q2dw hb); replace BK636 := Aside0.mk (blk_below (g := gb636) qzev hb); replace BK637 := Aside0.mk (blk_below (g := gb637) qj88 hb); replace BK649 := Aside0.mk (blk_below (g := gb649) qwpr hb); replace BK650 := Aside0.mk (blk_below (g := gb650) qesg hb); replace HB := Aside0.mk (below_step quq9 hb); obtain ⟨hcy10_619_0, hcy10_619_1, hcy10_619_2, hcy10_619_3⟩ := cells4 BK619.out; clear hb hbox hg) | ((with_reducible refine gate_dst (N := 15) rfl ?_); refine box_event qgcr (N := 15) qgcr (cs := #[.int .i64 0, .int .u64 0, .int .u32 0, .int .u64 0, .int .u32 0]) (t := 35) qlto ?_; intro gb663 hg w72 hbox hb; have BK663 := Aside0.mk (hbox); have GE663 := Aside0.mk ((by rw [hg]; exact (below_size qkun) : w.heap.size ≤ gb663)); have NB619_663 := Aside0.mk ((q463 : gb619 ≠ gb663)); have NB663_619 := Aside0.mk ((qzrk : gb663 ≠ gb619)); have NB620_663 := Aside0.mk ((q0h3 : gb620 ≠ gb663)); have NB663_620 := Aside0.mk ((qxyd : gb663 ≠ gb620)); have NB624_663 := Aside0.mk ((q0um : gb624 ≠ gb663)); have NB663_624 := Aside0.mk ((qnlq : gb663 ≠ gb624)); have NB636_663 := Aside0.mk ((qewa : gb636 ≠ gb663)); have NB663_636 := Aside0.mk ((q7lv : gb663 ≠ gb636)); have NB637_663 := Aside0.mk ((qjv5 : gb637 ≠ gb663)); have NB663_637 := Aside0.mk ((qzrt : gb663 ≠ gb637)); have NB649_663 := Aside0.mk ((by rw [hg]; exact Nat.ne_of_lt (blk_lt (g := gb649) qwpr) : gb649 ≠ gb663)); have NB663_649 := Aside0.mk ((by rw [hg]; exact Nat.ne_of_gt (blk_lt (g := gb649) qwpr) : gb663 ≠ gb649)); have NB650_663 := Aside0.mk ((by rw [hg]; exact Nat.ne_of_lt (blk_lt (g := gb650) qesg) : gb650 ≠ gb663)); have NB663_650 := Aside0.mk ((by rw [hg]; exact Nat.ne_of_gt (blk_lt (g := gb650) qesg) : gb663 ≠ gb650)); have NB662_663 := Aside0.mk ((by rw [hg]; exact Nat.ne_of_lt (blk_lt (g := gb662) qkin) : gb662 ≠ gb663)); have NB663_662 := Aside0.mk ((by rw [hg]; exact Nat.ne_of_gt (blk_lt (g := gb662) qkin) : gb663 ≠ gb662)); replace BK619 := Aside0.mk (blk_below (g := gb619) qwp9 hb); replace BK620 := Aside0.mk (blk_below (g := gb620) q1ry hb); replace BK624 := Aside0.mk (blk_below (g := gb624) q2dw hb); replace BK636 := Aside0.mk (blk_below (g := gb636) qzev hb); replace BK637 := Aside0.mk (blk_below (g := gb637) qj88 hb); replace BK649 := Aside0.mk (blk_below (g := gb649) qwpr hb); replace BK650 := Aside0.mk (blk_below (g := gb650) qesg hb); replace BK662 := Aside0.mk (blk_below (g := gb662) qkin hb); replace HB := Aside0.mk (below_step qkun hb); clear hb hbox hg; have hnb73 := NB662_619.out; have hnc73 := NB619_662.out; have hnb74 := NB662_620.out; have hnc74 := NB620_662.out; have hnb75 := NB662_624.out; have hnc75 := NB624_662.out; have hnb76 := NB662_636.out; have hnc76 := NB636_662.out; have hnb77 := NB662_637.out; have hnc77 := NB637_662.out; have hnb78 := NB662_649.out; have hnc78 := NB649_662.out; have hnb79 := NB662_650.out; have hnc79 := NB650_662.out; have hnb80 := NB662_663.out; have hnc80 := NB663_662.out; obtain ⟨hcz81_0, hcz81_1, hcz81_2, hcz81_3, hcz81_4, hcz81_5⟩ := cells6 BK662.out; obtain ⟨hfz81_0, hfz81_1, hfz81_2, hfz81_3, hfz81_4, hfz81_5⟩ := frozen6 BK662.out; have hnb82 := NB663_619.out; have hnc82 := NB619_663.out; have hnb83 := NB663_620.out; have hnc83 := NB620_663.out; have hnb84 := NB663_624.out; have hnc84 := NB624_663.out; have hnb85 := NB663_636.out; have hnc85 := NB636_663.out; have hnb86 := NB663_637.out; have hnc86 := NB637_663.out; have hnb87 := NB663_649.out; have hnc87 := NB649_663.out; have hnb88 := NB663_650.out; have hnc88 := NB650_663.out; obtain ⟨hcz89_0, hcz89_1, hcz89_2, hcz89_3, hcz89_4⟩ := cells5 BK663.out; obtain ⟨hfz89_0, hfz89_1, hfz89_2, hfz89_3, hfz89_4⟩ := frozen5 BK663.out; obtain ⟨hcz90_0, hcz90_1, hcz90_2, hcz90_3, hcz90_4, hcz90_5⟩ := cells6 BK636.out; obtain ⟨hfz90_0, hfz90_1, hfz90_2, hfz90_3, hfz90_4, hfz90_5⟩ := frozen6 BK636.out; obtain ⟨hcz91_0, hcz91_1, hcz91_2, hcz91_3⟩ := cells4 BK619.out; obtain ⟨hfz91_0, hfz91_1, hfz91_2, hfz91_3⟩ := frozen4 BK619.out; obtain ⟨hcz92_0, hcz92_1, hcz92_2, hcz92_3⟩ := cells4 BK620.out; obtain ⟨hfz92_0, hfz92_1, hfz92_2, hfz92_3⟩ := frozen4 BK620.out; obtain ⟨hcz93_0, hcz93_1, hcz93_2, hcz93_3, hcz93_4⟩ := cells5 BK637.out; obtain ⟨hfz93_0, hfz93_1, hfz93_2, hfz93_3, hfz93_4⟩ := frozen5 BK637.out; obtain ⟨hcz94_0, hcz94_1, hcz94_2, hcz94_3, hcz94_4, hcz94_5⟩ := cells6 BK649.out; obtain ⟨hfz94_0, hfz94_1, hfz94_2, hfz94_3, hfz94_4, hfz94_5⟩ := frozen6 BK649.out) | (go_at_call 10; (with_reducible refine (gangwaylaw20_fixed.calls kj11  t664 _ ?sideL A28.out).mono ?_); (case sideL => exact laid_below HLD.out q50q); rintro e w95 ⟨rfl, hb⟩; replace BK619 := Aside0.mk (blk_below (g := gb619) (o := .cells #[.int .u32 a0_0, .int .u32 a0_1, .int .i64 a0_2, .int .i64 a0_3] 41 (0, 0)) (by (with_reducible repeat (first | refine blk_drewN ?_ _ | refine blk_drew ?_ | refine blk_alloc ?_ _ | refine blk_far ?_ NB619_663.out _ | refine blk_far ?_ NB619_662.out _)); exact BK619.out) hb); replace BK620 := Aside0.mk (blk_below (g := gb620) (o := .cells #[.int .i64 a1_0, .int .i64 4789, .bool a1_2, .string x621003_3] 31 (0, 0)) (by (with_reducible repeat (first | refine blk_drewN ?_ _ | refine blk_drew ?_ | refine blk_alloc ?_ _ | refine blk_far ?_ NB620_663.out _ | refine blk_far ?_ NB620_662.out _)); exact BK620.out) hb); replace BK624 := Aside0.mk (blk_below (g := gb624) (o := .cells #[.int .u64 281474976710655, .int .u64 6, .bool false, .int .i64 0, .bool false, .int .i64 0, .int .i64 2048, .string (t621 ++ x2_11)] 29 (0, 0)) (by (with_reducible repeat (first | refine blk_drewN ?_ _ | refine blk_drew ?_ | refine blk_alloc ?_ _ | refine blk_far ?_ NB624_663.out _ | refine blk_far ?_ NB624_662.out _)); exact BK624.out) hb); replace BK636 := Aside0.mk (blk_below (g := gb636) (o := .cells #[.int .i64 t625, .int .u32 t626, .int .i64 t627, .int .i64 t628, .bool t629, .string t630] 33 (0, 0)) (by (with_reducible repeat (first | refine blk_drewN ?_ _ | refine blk_drew ?_ | refine blk_alloc ?_ _ | refine blk_far ?_ NB636_663.out _ | refine blk_far ?_ NB636_662.out _)); exact BK636.out) hb); replace BK637 := Aside0.mk (blk_below (g := gb637) (o := .cells #[.int .i64 t631, .int .u64 t632, .int .u32 t633, .int .u64 t634, .int .u32 t635] 35 (0, 0)) (by (with_reducible repeat (first | refine blk_drewN ?_ _ | refine blk_drew ?_ | refine blk_alloc ?_ _ | refine blk_far ?_ NB637_663.out _ | refine blk_far ?_ NB637_662.out _)); exact BK637.out) hb); replace BK649 := Aside0.mk (blk_below (g := gb649) (o := .cells #[.int .i64 t638, .int .u32 t639, .int .i64 t640, .int .i64 t641, .bool t642, .string t643] 33 (0, 0)) (by (with_reducible repeat (first | refine blk_drewN ?_ _ | refine blk_drew ?_ | refine blk_alloc ?_ _ | refine blk_far ?_ NB649_663.out _ | refine blk_far ?_ NB649_662.out _)); exact BK649.out) hb); replace BK650 := Aside0.mk (blk_below (g := gb650) (o := .cells #[.int .i64 t644, .int .u64 t645, .int .u32 t646, .int .u64 t647, .int .u32 t648] 35 (0, 0)) (by (with_reducible repeat (first | refine blk_drewN ?_ _ | refine blk_drew ?_ | refine blk_alloc ?_ _ | refine blk_far ?_ NB650_663.out _ | refine blk_far ?_ NB650_662.out _)); exact BK650.out) hb); replace BK662 := Aside0.mk (blk_below (g := gb662) (o := .cells #[.int .i64 t651, .int .u32 t652, .int .i64 t653, .int .i64 t654, .bool t655, .string t656] 33 (0, 0)) (by (with_reducible repeat (first | refine blk_drewN ?_ _ | refine blk_drew ?_ | refine blk_alloc ?_ _ | refine blk_far ?_ NB662_663.out _)); exact (put6_0_6 qkin)) hb); replace BK663 := Aside0.mk (blk_below (g := gb663) (o := .cells #[.int .i64 t657, .int .u64 t658, .int .u32 t659, .int .u64 t660, .int .u32 t661] 35 (0, 0)) (by (with_reducible repeat (first | refine blk_drewN ?_ _ | refine blk_drew ?_ | refine blk_alloc ?_ _)); exact put5_0_5 (by (with_reducible repeat (first | refine blk_drewN ?_ _ | refine blk_drew ?_ | refine blk_alloc ?_ _ | refine blk_far ?_ NB663_662.out _)); exact BK663.out)) hb); replace HB := Aside0.mk (below_step q50q hb); obtain ⟨hcy12_619_0, hcy12_619_1, hcy12_619_2, hcy12_619_3⟩ := cells4 BK619.out; (try clear hb); (try clear hb2); (try clear hk); (try clear hi)))
           go_ret
           exact ⟨qxu5, q50q⟩
          ·rw [if_neg c27] at H
           exact absurd H q6hr
         ·rw [if_neg c26] at H
          exact absurd H q6hr
        ·rw [if_neg c25] at H
         exact absurd H q6hr
       ·rw [if_neg c24] at H
        exact absurd H q6hr
      ·rw [if_neg c20] at H
       exact absurd H q6hr
     ·rw [if_neg c19] at H
      have c19b0 : (t622 == 0) = false := beq_eq_false_iff_ne.mpr c19
      have c19b1 : (t622 != 0) = true := bne_iff_ne.mpr c19
      by_cases c96 : t621.toList = ([] : List UInt8)
      ·rw [if_pos c96] at H
       have c96b0 : (t621.toList == ([] : List UInt8)) = true := beq_iff_eq.mpr c96
       have c96b1 : (t621.toList != ([] : List UInt8)) = false := bne_eq_false_iff_eq.mpr c96
       clear c96
       replace H := Option.bind_eq_some_iff.mp H
       obtain ⟨t623, A970, H⟩ := H
       try dsimp only at H
       have A97 := Aside0.mk A970
       clear A970
       obtain rfl := Option.some.inj H
       have hnb98 := NB619_620.out
       have hnc98 := NB620_619.out
       obtain ⟨hcz99_0, hcz99_1, hcz99_2, hcz99_3⟩ := cells4 BK619.out
       obtain ⟨hfz99_0, hfz99_1, hfz99_2, hfz99_3⟩ := frozen4 BK619.out
       obtain ⟨hcz100_0, hcz100_1, hcz100_2, hcz100_3⟩ := cells4 BK620.out
       obtain ⟨hfz100_0, hfz100_1, hfz100_2, hfz100_3⟩ := frozen4 BK620.out
       go_wp2_with (first | ((with_reducible refine gate_st (ty := 29) rfl ?_); refine storeC8 rfl rfl rfl rfl rfl qfxd qr2c qg3m rfl ?_) | ((with_reducible refine gate_ld (ty := 29) rfl ?_); (try (with_reducible refine gate_gd rfl ?_; refine gate_guard q8ju ?_; dsimp only)); refine load_st rfl rfl rfl qfxd qr2c Tryd.underlying29 rfl qg3m ?_; (try simp only [Act.put, List.setIfInBounds_toArray, List.set_cons_zero, List.set_cons_succ])) | ((with_reducible refine gate_st (ty := 33) rfl ?_); refine storeC6 rfl rfl rfl rfl rfl qfxd qr2c qg3m rfl ?_) | ((with_reducible refine gate_ld (ty := 33) rfl ?_); (try (with_reducible refine gate_gd rfl ?_; refine gate_guard q8ju ?_; dsimp only)); refine load_st rfl rfl rfl qfxd qr2c Tryd.underlying33 rfl qg3m ?_; (try simp only [Act.put, List.setIfInBounds_toArray, List.set_cons_zero, List.set_cons_succ])) | ((with_reducible refine gate_st (ty := 35) rfl ?_); refine storeC5 rfl rfl rfl rfl rfl qfxd qr2c qg3m rfl ?_) | ((with_reducible refine gate_ld (ty := 35) rfl ?_); (try (with_reducible refine gate_gd rfl ?_; refine gate_guard q8ju ?_; dsimp only)); refine load_st rfl rfl rfl qfxd qr2c Tryd.underlying35 rfl qg3m ?_; (try simp only [Act.put, List.setIfInBounds_toArray, List.set_cons_zero, List.set_cons_succ])) | ((with_reducible refine gate_callee (f := 11) rfl ?_); refine goesL_ (some 38) rfl rfl Tryd.func11 qg3m rfl #[.int .u32 a0_0, .int .u32 a0_1, .agg #[.int .i64 a1_0, .int .i64 4789, .bool a1_2, .string x621003_3], .int .i64 a0_2, .int .i64 65536] rfl qraq ?_; (with_reducible refine (station_Make.calls kj11 a0_0 a0_1 a1_0 4789 a1_2 x621003_3 a0_2 65536 t621 t622 _ A18.out).mono ?_); rintro e w101 ⟨rfl, hb⟩; refine ⟨_, rfl, ?_⟩; replace BK619 := Aside0.mk (blk_below (g := gb619) qwp9 hb); replace BK620 := Aside0.mk (blk_below (g := gb620) q1ry hb); replace HB := Aside0.mk (below_step qtim hb); obtain ⟨hcy1_619_0, hcy1_619_1, hcy1_619_2, hcy1_619_3⟩ := cells4 BK619.out; (try clear hb); (try clear hb2); (try clear hk); (try clear hi)) | (go_at_call 10; (with_reducible refine (gangwaylaw20_fixed.calls kj11  t623 _ ?sideL A97.out).mono ?_); (case sideL => exact laid_below HLD.out qtim); rintro e w102 ⟨rfl, hb⟩; replace BK619 := Aside0.mk (blk_below (g := gb619) qwp9 hb); replace BK620 := Aside0.mk (blk_below (g := gb620) q1ry hb); replace HB := Aside0.mk (below_step qtim hb); obtain ⟨hcy2_619_0, hcy2_619_1, hcy2_619_2, hcy2_619_3⟩ := cells4 BK619.out; (try clear hb); (try clear hb2); (try clear hk); (try clear hi)))
       go_ret
       exact ⟨qxu5, qtim⟩
      ·rw [if_neg c96] at H
       exact absurd H q6hr

end Go.Proofs.YtbkgaplldfilnaaDoor.P
