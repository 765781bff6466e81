-- slim
-- Written by wip/hprint.py (this session's program) through the kit's print program; hand contracts are marked 'by hand'.
import Derived.Test.YtbkgaplldfilnaaDoorAbb
import Derived.Test.YtbkgaplldfilnaaDoorRow
import Derived.Test.YtbkgaplldfilnaaDoorPx0
import Derived.Test.YtbkgaplldfilnaaDoorPx21
import Derived.Test.YtbkgaplldfilnaaDoorPx35
import Derived.Test.YtbkgaplldfilnaaDoorPx36
namespace Go.Proofs.YtbkgaplldfilnaaDoor.P
open Go.RowKit Go.Proofs.YtbkgaplldfilnaaDoorW.PrintWords Go.Proofs.YtbkgaplldfilnaaDoorW.PrintLast Go.Proofs.YtbkgaplldfilnaaDoorW.PrintMore
attribute [local go_sem] max2_int min2_int max_two min_two max_three min_three max_four min_four   -- for this text's walks alone
set_option linter.unusedVariables false
set_option linter.unusedSimpArgs false

attribute [local go_sem high] eqA33
/-! ### gangwaylaw20_StationSpoilt: function 6 -/
mutual
def gangwaylaw20_StationSpoilt.j0 : Nat → Int → Int → Int → Int → Int → Int → Int → Bool → ByteArray → Option (Bool)
 | 0, _, _, _, _, _, _, _, _, _ => none
 | k + 1, x2, x666000, x666001, x666002, x666003, x667000, x667001, x667002, x667003 => (station_Make.f k x666000 x666001 x667000 4789 x667002 x667003 x666002 65536).bind fun bt667 => (if bt667.2 = 0 then (gangwaylaw20_StationSpoilt.j1 k x2 bt667.1 bt667.2 (decide ((bt667.1.size : Int) < 28)) x666000 x666001 x666002 x666003) else (gangwaylaw20_StationSpoilt.j1 k x2 bt667.1 bt667.2 true x666000 x666001 x666002 x666003))
def gangwaylaw20_StationSpoilt.j1 : Nat → Int → ByteArray → Int → Bool → Int → Int → Int → Int → Option (Bool)
 | 0, _, _, _, _, _, _, _, _ => none
 | k + 1, x2, x7, x8, x42, x666000, x666001, x666002, x666003 => if x42 = true then (if x8 = 0 then (none) else ((gangwaylaw20_fixed.f k).bind fun t669 => (some t669))) else (if (x7.size : Int) = 0 then (none) else (gangwaylaw20_StationSpoilt.j2 k x2 x7 (Int.tmod (Go.bits .and .i64 x2 65535) (x7.size : Int)) x666000 x666001 x666002 x666003))
def gangwaylaw20_StationSpoilt.j2 : Nat → Int → ByteArray → Int → Int → Int → Int → Int → Option (Bool)
 | 0, _, _, _, _, _, _, _ => none
 | k + 1, x2, x7, x9, x666000, x666001, x666002, x666003 => if 0 ≤ x9 then (if x9 ≤ (x7.size : Int) then ((station_Take.f k 2 x666001 2 6 false 0 false 0 2048 (x7.extract 0 (x9 : Int).toNat)).bind fun bt671 => (gangwaylaw20_StationSpoilt.j3 k x2 x7 (Int.tmod (Go.bits .and .i64 x2 65535) 20) x666000 x666001 x666002 x666003 2 6 false 0 false 0 2048 (x7.extract 0 (x9 : Int).toNat) bt671.1 bt671.2.1 bt671.2.2.1 bt671.2.2.2.1 bt671.2.2.2.2.1 bt671.2.2.2.2.2.1)) else (none)) else (none)
def gangwaylaw20_StationSpoilt.j3 : Nat → Int → ByteArray → Int → Int → Int → Int → Int → Int → Int → Bool → Int → Bool → Int → Int → ByteArray → Int → Int → Int → Int → Bool → ByteArray → Option (Bool)
 | 0, _, _, _, _, _, _, _, _, _, _, _, _, _, _, _, _, _, _, _, _, _ => none
 | k + 1, x2, x7, x13, x666000, x666001, x666002, x666003, x671000, x671001, x671002, x671003, x671004, x671005, x671006, x671007, x683000, x683001, x683002, x683003, x683004, x683005 => if 0 ≤ x13 then (if x13 ≤ (x7.size : Int) then (if x13 < (x7.size : Int) then ((some (([Go.bits .xor .u8 (bt x7 x13) ((wrap64 (1 + (Go.bits .and .i64 (x2 / 1048576) 127))) % 256)] : List Int) : List Int)).bind fun y684 => (if (x7.extract 0 (x13 : Int).toNat).size + (strOfNums y684).size ≤ 9223372036854775807 then (if 0 ≤ (wrap64 (x13 + 1)) then (if (wrap64 (x13 + 1)) ≤ (x7.size : Int) then (if ((x7.extract 0 (x13 : Int).toNat) ++ (strOfNums y684)).size + (x7.extract ((wrap64 (x13 + 1)) : Int).toNat x7.size).size ≤ 9223372036854775807 then ((station_Take.f k 2 x666001 x671000 x671001 x671002 x671003 x671004 x671005 x671006 (((x7.extract 0 (x13 : Int).toNat) ++ (strOfNums y684)) ++ (x7.extract ((wrap64 (x13 + 1)) : Int).toNat x7.size))).bind fun bt687 => (if (x683000 == 4 && (x683001 == 0 && ((x683002 == 0 && (x683003 == 0 && (!x683004 && (x683005.toList == ([] : List UInt8)))))))) = true then (if (bt687.1 == 4 && (bt687.2.1 == 0 && ((bt687.2.2.1 == 0 && (bt687.2.2.2.1 == 0 && (!bt687.2.2.2.2.1 && (bt687.2.2.2.2.2.1.toList == ([] : List UInt8)))))))) = true then ((gangwaylaw20_fixed.f k).bind fun t700 => (some t700)) else (none)) else (none))) else (none)) else (none)) else (none)) else (none))) else (none)) else (none)) else (none)
end
def gangwaylaw20_StationSpoilt.f (k : Nat) (a0_0 : Int) (a0_1 : Int) (a0_2 : Int) (a0_3 : Int) (a1_0 : Int) (a1_1 : Int) (a1_2 : Bool) (a1_3 : ByteArray) (a2 : Int) : Option (Bool) := if 0 ≤ (mn (a1_3.size : Int) 1400) then (if (mn (a1_3.size : Int) 1400) ≤ (a1_3.size : Int) then (gangwaylaw20_StationSpoilt.j0 k a2 a0_0 a0_1 a0_2 a0_3 a1_0 a1_1 a1_2 (a1_3.extract 0 ((mn (a1_3.size : Int) 1400) : Int).toNat)) else (none)) else (none)
theorem gangwaylaw20_StationSpoilt.mono_l : ∀ k, (∀ y0 y1 y2 y3 y4 y5 y6 y7 y8, LeO (gangwaylaw20_StationSpoilt.j0 k y0 y1 y2 y3 y4 y5 y6 y7 y8) (gangwaylaw20_StationSpoilt.j0 (k + 1) y0 y1 y2 y3 y4 y5 y6 y7 y8)) ∧ (∀ y0 y1 y2 y3 y4 y5 y6 y7, LeO (gangwaylaw20_StationSpoilt.j1 k y0 y1 y2 y3 y4 y5 y6 y7) (gangwaylaw20_StationSpoilt.j1 (k + 1) y0 y1 y2 y3 y4 y5 y6 y7)) ∧ (∀ y0 y1 y2 y3 y4 y5 y6, LeO (gangwaylaw20_StationSpoilt.j2 k y0 y1 y2 y3 y4 y5 y6) (gangwaylaw20_StationSpoilt.j2 (k + 1) y0 y1 y2 y3 y4 y5 y6)) ∧ (∀ y0 y1 y2 y3 y4 y5 y6 y7 y8 y9 y10 y11 y12 y13 y14 y15 y16 y17 y18 y19 y20, LeO (gangwaylaw20_StationSpoilt.j3 k y0 y1 y2 y3 y4 y5 y6 y7 y8 y9 y10 y11 y12 y13 y14 y15 y16 y17 y18 y19 y20) (gangwaylaw20_StationSpoilt.j3 (k + 1) y0 y1 y2 y3 y4 y5 y6 y7 y8 y9 y10 y11 y12 y13 y14 y15 y16 y17 y18 y19 y20))
 | 0 => ⟨fun _ _ _ _ _ _ _ _ _ r h => by simp [gangwaylaw20_StationSpoilt.j0] at h, fun _ _ _ _ _ _ _ _ r h => by simp [gangwaylaw20_StationSpoilt.j1] at h, fun _ _ _ _ _ _ _ r h => by simp [gangwaylaw20_StationSpoilt.j2] at h, fun _ _ _ _ _ _ _ _ _ _ _ _ _ _ _ _ _ _ _ _ _ r h => by simp [gangwaylaw20_StationSpoilt.j3] at h⟩
 | k + 1 => by
  obtain ⟨ih0, ih1, ih2, ih3⟩ := gangwaylaw20_StationSpoilt.mono_l k
  refine ⟨?_, ?_, ?_, ?_⟩
  ·intro y0 y1 y2 y3 y4 y5 y6 y7 y8
   unfold gangwaylaw20_StationSpoilt.j0
   repeat' first
   | (with_reducible exact ih0 _ _ _ _ _ _ _ _ _)
   | (with_reducible exact ih1 _ _ _ _ _ _ _ _)
   | (with_reducible exact ih2 _ _ _ _ _ _ _)
   | (with_reducible exact ih3 _ _ _ _ _ _ _ _ _ _ _ _ _ _ _ _ _ _ _ _ _)
   | (with_reducible exact gangwaylaw20_fixed.mono _)
   | (with_reducible exact station_Make.mono _ _ _ _ _ _ _ _ _)
   | (with_reducible exact station_Take.mono _ _ _ _ _ _ _ _ _ _ _)
   | (with_reducible exact LeO.refl _)
   | (with_reducible exact LeO.none _)
   | (with_reducible refine LeO.ite ?_ ?_)
   | (with_reducible refine LeO.bind ?_ (fun _ => ?_))
   | exact ih0 _ _ _ _ _ _ _ _ _
   | exact ih1 _ _ _ _ _ _ _ _
   | exact ih2 _ _ _ _ _ _ _
   | exact ih3 _ _ _ _ _ _ _ _ _ _ _ _ _ _ _ _ _ _ _ _ _
   | exact gangwaylaw20_fixed.mono _
   | exact station_Make.mono _ _ _ _ _ _ _ _ _
   | exact station_Take.mono _ _ _ _ _ _ _ _ _ _ _
   | exact LeO.none _
   | refine LeO.ite ?_ ?_
   | refine LeO.bind ?_ (fun _ => ?_)
  ·intro y0 y1 y2 y3 y4 y5 y6 y7
   unfold gangwaylaw20_StationSpoilt.j1
   repeat' first
   | (with_reducible exact ih0 _ _ _ _ _ _ _ _ _)
   | (with_reducible exact ih1 _ _ _ _ _ _ _ _)
   | (with_reducible exact ih2 _ _ _ _ _ _ _)
   | (with_reducible exact ih3 _ _ _ _ _ _ _ _ _ _ _ _ _ _ _ _ _ _ _ _ _)
   | (with_reducible exact gangwaylaw20_fixed.mono _)
   | (with_reducible exact station_Make.mono _ _ _ _ _ _ _ _ _)
   | (with_reducible exact station_Take.mono _ _ _ _ _ _ _ _ _ _ _)
   | (with_reducible exact LeO.refl _)
   | (with_reducible exact LeO.none _)
   | (with_reducible refine LeO.ite ?_ ?_)
   | (with_reducible refine LeO.bind ?_ (fun _ => ?_))
   | exact ih0 _ _ _ _ _ _ _ _ _
   | exact ih1 _ _ _ _ _ _ _ _
   | exact ih2 _ _ _ _ _ _ _
   | exact ih3 _ _ _ _ _ _ _ _ _ _ _ _ _ _ _ _ _ _ _ _ _
   | exact gangwaylaw20_fixed.mono _
   | exact station_Make.mono _ _ _ _ _ _ _ _ _
   | exact station_Take.mono _ _ _ _ _ _ _ _ _ _ _
   | exact LeO.none _
   | refine LeO.ite ?_ ?_
   | refine LeO.bind ?_ (fun _ => ?_)
  ·intro y0 y1 y2 y3 y4 y5 y6
   unfold gangwaylaw20_StationSpoilt.j2
   repeat' first
   | (with_reducible exact ih0 _ _ _ _ _ _ _ _ _)
   | (with_reducible exact ih1 _ _ _ _ _ _ _ _)
   | (with_reducible exact ih2 _ _ _ _ _ _ _)
   | (with_reducible exact ih3 _ _ _ _ _ _ _ _ _ _ _ _ _ _ _ _ _ _ _ _ _)
   | (with_reducible exact gangwaylaw20_fixed.mono _)
   | (with_reducible exact station_Make.mono _ _ _ _ _ _ _ _ _)
   | (with_reducible exact station_Take.mono _ _ _ _ _ _ _ _ _ _ _)
   | (with_reducible exact LeO.refl _)
   | (with_reducible exact LeO.none _)
   | (with_reducible refine LeO.ite ?_ ?_)
   | (with_reducible refine LeO.bind ?_ (fun _ => ?_))
   | exact ih0 _ _ _ _ _ _ _ _ _
   | exact ih1 _ _ _ _ _ _ _ _
   | exact ih2 _ _ _ _ _ _ _
   | exact ih3 _ _ _ _ _ _ _ _ _ _ _ _ _ _ _ _ _ _ _ _ _
   | exact gangwaylaw20_fixed.mono _
   | exact station_Make.mono _ _ _ _ _ _ _ _ _
   | exact station_Take.mono _ _ _ _ _ _ _ _ _ _ _
   | exact LeO.none _
   | refine LeO.ite ?_ ?_
   | refine LeO.bind ?_ (fun _ => ?_)
  ·intro y0 y1 y2 y3 y4 y5 y6 y7 y8 y9 y10 y11 y12 y13 y14 y15 y16 y17 y18 y19 y20
   unfold gangwaylaw20_StationSpoilt.j3
   repeat' first
   | (with_reducible exact ih0 _ _ _ _ _ _ _ _ _)
   | (with_reducible exact ih1 _ _ _ _ _ _ _ _)
   | (with_reducible exact ih2 _ _ _ _ _ _ _)
   | (with_reducible exact ih3 _ _ _ _ _ _ _ _ _ _ _ _ _ _ _ _ _ _ _ _ _)
   | (with_reducible exact gangwaylaw20_fixed.mono _)
   | (with_reducible exact station_Make.mono _ _ _ _ _ _ _ _ _)
   | (with_reducible exact station_Take.mono _ _ _ _ _ _ _ _ _ _ _)
   | (with_reducible exact LeO.refl _)
   | (with_reducible exact LeO.none _)
   | (with_reducible refine LeO.ite ?_ ?_)
   | (with_reducible refine LeO.bind ?_ (fun _ => ?_))
   | exact ih0 _ _ _ _ _ _ _ _ _
   | exact ih1 _ _ _ _ _ _ _ _
   | exact ih2 _ _ _ _ _ _ _
   | exact ih3 _ _ _ _ _ _ _ _ _ _ _ _ _ _ _ _ _ _ _ _ _
   | exact gangwaylaw20_fixed.mono _
   | exact station_Make.mono _ _ _ _ _ _ _ _ _
   | exact station_Take.mono _ _ _ _ _ _ _ _ _ _ _
   | exact LeO.none _
   | refine LeO.ite ?_ ?_
   | refine LeO.bind ?_ (fun _ => ?_)
theorem gangwaylaw20_StationSpoilt.mono : ∀ a0 a1 a2 a3 a4 a5 a6 a7 a8 k, LeO (gangwaylaw20_StationSpoilt.f k a0 a1 a2 a3 a4 a5 a6 a7 a8) (gangwaylaw20_StationSpoilt.f (k + 1) a0 a1 a2 a3 a4 a5 a6 a7 a8) := by
 intro a0 a1 a2 a3 a4 a5 a6 a7 a8 k
 obtain ⟨ih0, ih1, ih2, ih3⟩ := gangwaylaw20_StationSpoilt.mono_l k
 unfold gangwaylaw20_StationSpoilt.f
 repeat' first
   | (with_reducible exact ih0 _ _ _ _ _ _ _ _ _)
   | (with_reducible exact ih1 _ _ _ _ _ _ _ _)
   | (with_reducible exact ih2 _ _ _ _ _ _ _)
   | (with_reducible exact ih3 _ _ _ _ _ _ _ _ _ _ _ _ _ _ _ _ _ _ _ _ _)
   | (with_reducible exact gangwaylaw20_fixed.mono _)
   | (with_reducible exact station_Make.mono _ _ _ _ _ _ _ _ _)
   | (with_reducible exact station_Take.mono _ _ _ _ _ _ _ _ _ _ _)
   | (with_reducible exact LeO.refl _)
   | (with_reducible exact LeO.none _)
   | (with_reducible refine LeO.ite ?_ ?_)
   | (with_reducible refine LeO.bind ?_ (fun _ => ?_))
   | exact ih0 _ _ _ _ _ _ _ _ _
   | exact ih1 _ _ _ _ _ _ _ _
   | exact ih2 _ _ _ _ _ _ _
   | exact ih3 _ _ _ _ _ _ _ _ _ _ _ _ _ _ _ _ _ _ _ _ _
   | exact gangwaylaw20_fixed.mono _
   | exact station_Make.mono _ _ _ _ _ _ _ _ _
   | exact station_Take.mono _ _ _ _ _ _ _ _ _ _ _
   | exact LeO.none _
   | refine LeO.ite ?_ ?_
   | refine LeO.bind ?_ (fun _ => ?_)
def gangwaylaw20_StationSpoilt.T10 : Bool × List (List Nat × List Nat) := (true, [([], []), ([], []), ([0, 1], [0, 1]), ([], []), ([], []), ([3, 4], [3, 4]), ([], []), ([6], [6]), ([7], [7]), ([8], [8]), ([9], [9]), ([5, 10], [5, 10]), ([11], [11]), ([12], [12]), ([2, 13], [2, 13]), ([], []), ([], []), ([16], [16]), ([15, 17], [15, 17]), ([14, 18], [14, 18]), ([0, 1, 2, 3, 4, 5, 6, 7, 8, 9, 10, 11, 12, 13, 14, 15, 16, 17, 18, 19], []), ([20, 19, 0, 1, 2, 3, 4, 5, 6, 7, 8, 9, 10, 11, 12, 13, 14, 15, 16, 17, 18, 19], [19, 20])])
def gangwaylaw20_StationSpoilt.B10 : List Nat := [0, 0, 3, 0, 0, 24, 0, 64, 192, 448, 960, 2040, 4088, 8184, 16383, 0, 0, 65536, 229376, 524287, 1048575, 2097151]
theorem gangwaylaw20_StationSpoilt.tab10 : rtab .any (opsOf Tryd.f6 10) = gangwaylaw20_StationSpoilt.T10 := by kernel_rfl
theorem gangwaylaw20_StationSpoilt.bits10 : waitsOk gangwaylaw20_StationSpoilt.T10.2 gangwaylaw20_StationSpoilt.B10 = true := by kernel_rfl
theorem z46_0 {p : Prop} (h : p := by
 simp only [Act.put, List.setIfInBounds_toArray, List.set_cons_zero, List.set_cons_succ, i64_w, i32_w]
 rfl) : p := h
set_option maxHeartbeats 8000000 in
set_option maxRecDepth 100000 in
theorem gangwaylaw20_StationSpoilt.calls (k : Nat) (a0_0 : Int) (a0_1 : Int) (a0_2 : Int) (a0_3 : Int) (a1_0 : Int) (a1_1 : Int) (a1_2 : Bool) (a1_3 : ByteArray) (a2 : Int) (r : Bool) (w : World) (hL : Laid w) (h : gangwaylaw20_StationSpoilt.f k a0_0 a0_1 a0_2 a0_3 a1_0 a1_1 a1_2 a1_3 a2 = some r) :
  Calls Tryd.prog 6 #[.agg #[.int .u32 a0_0, .int .u32 a0_1, .int .i64 a0_2, .int .i64 a0_3], .agg #[.int .i64 a1_0, .int .i64 a1_1, .bool a1_2, .string a1_3], .int .i64 a2] w fun e w' => e = .returned (.bool r) ∧ Below w.heap.size w w' := by
 have HLD := Aside0.mk hL
 clear hL
 have hu41 := Tryd.underlying41
 have hu31 := Tryd.underlying31
 have hu29 := Tryd.underlying29
 have hu33 := Tryd.underlying33
 have hu35 := Tryd.underlying35
 have HB := Aside0.mk (Below.refl w.heap.size w)
 have H : (if 0 ≤ (mn (a1_3.size : Int) 1400) then (if (mn (a1_3.size : Int) 1400) ≤ (a1_3.size : Int) then (gangwaylaw20_StationSpoilt.j0 k a2 a0_0 a0_1 a0_2 a0_3 a1_0 a1_1 a1_2 (a1_3.extract 0 ((mn (a1_3.size : Int) 1400) : Int).toNat)) else (none)) else (none)) = some r := h
 clear h
 have HC4 := Aside0.mk H
 clear H
 go_enter Tryd.func6, Tryd.ntmps6
 go_upto_region 1 with (first | ((with_reducible refine gate_st (ty := 29) rfl ?_); refine storeC8 rfl rfl rfl rfl rfl qm9d qr2c qg3m rfl ?_) | ((with_reducible refine gate_ld (ty := 29) rfl ?_); (try (with_reducible refine gate_gd rfl ?_; refine gate_guard q8ju ?_; dsimp only)); refine load_st rfl rfl rfl qm9d qr2c Tryd.underlying29 rfl qg3m ?_; (try simp only [Act.put, List.setIfInBounds_toArray, List.set_cons_zero, List.set_cons_succ])) | ((with_reducible refine gate_st (ty := 33) rfl ?_); refine storeC6 rfl rfl rfl rfl rfl qm9d qr2c qg3m rfl ?_) | ((with_reducible refine gate_ld (ty := 33) rfl ?_); (try (with_reducible refine gate_gd rfl ?_; refine gate_guard q8ju ?_; dsimp only)); refine load_st rfl rfl rfl qm9d qr2c Tryd.underlying33 rfl qg3m ?_; (try simp only [Act.put, List.setIfInBounds_toArray, List.set_cons_zero, List.set_cons_succ])) | ((with_reducible refine gate_st (ty := 35) rfl ?_); refine storeC5 rfl rfl rfl rfl rfl qm9d qr2c qg3m rfl ?_) | ((with_reducible refine gate_ld (ty := 35) rfl ?_); (try (with_reducible refine gate_gd rfl ?_; refine gate_guard q8ju ?_; dsimp only)); refine load_st rfl rfl rfl qm9d qr2c Tryd.underlying35 rfl qg3m ?_; (try simp only [Act.put, List.setIfInBounds_toArray, List.set_cons_zero, List.set_cons_succ])) | ((with_reducible refine gate_dst (N := 3) rfl ?_); (try (refine gate_guard qgcr ?_; dsimp only)); refine box_event qgcr (N := 3) qgcr (cs := #[.int .u32 a0_0, .int .u32 a0_1, .int .i64 a0_2, .int .i64 a0_3]) (t := 41) qlto ?_; intro gb665 hg w5 hbox hb; have BK665 := Aside0.mk (hbox); have GE665 := Aside0.mk ((qisx : w.heap.size ≤ gb665)); replace HB := Aside0.mk (below_step qpag hb); clear hb hbox hg) | ((with_reducible refine gate_dst (N := 4) rfl ?_); (try (refine gate_guard qgcr ?_; dsimp only)); refine box_event qgcr (N := 4) qgcr (cs := #[.int .i64 a1_0, .int .i64 a1_1, .bool a1_2, .string a1_3]) (t := 31) qlto ?_; intro gb666 hg w6 hbox hb; have BK666 := Aside0.mk (hbox); have GE666 := Aside0.mk ((by rw [hg]; exact (below_size q4xa) : w.heap.size ≤ gb666)); have NB665_666 := Aside0.mk ((q22x : gb665 ≠ gb666)); have NB666_665 := Aside0.mk ((q4ff : gb666 ≠ gb665)); replace BK665 := Aside0.mk (blk_below (g := gb665) qd5d hb); replace HB := Aside0.mk (below_step q4xa hb); clear hb hbox hg))
 (try simp only [Act.put, List.setIfInBounds_toArray, List.set_cons_zero, List.set_cons_succ])
 go_cut [] (fun wc => ∃ (kq : Nat) (x667003_3 : ByteArray), Aside0 (gangwaylaw20_StationSpoilt.j0 kq a2 a0_0 a0_1 a0_2 a0_3 a1_0 a1_1 a1_2 x667003_3 = some r) ∧ Aside0 (kq ≤ k) ∧ Aside0 (wc.heap[gb665]? = some (.cells #[.int .u32 a0_0, .int .u32 a0_1, .int .i64 a0_2, .int .i64 a0_3] 41 (0, 0))) ∧ Aside0 (wc.heap[gb666]? = some (.cells #[.int .i64 a1_0, .int .i64 a1_1, .bool a1_2, .string x667003_3] 31 (0, 0))) ∧ Aside0 (Below w.heap.size w wc))
 case first =>
  have H := HC4.out
  clear HC4
  obtain ⟨ji7, hji7⟩ : ∃ j_ : Int, (mn (a1_3.size : Int) 1400) = j_ := ⟨_, rfl⟩
  replace H : (if 0 ≤ (ji7) then (if (ji7) ≤ (a1_3.size : Int) then (gangwaylaw20_StationSpoilt.j0 k a2 a0_0 a0_1 a0_2 a0_3 a1_0 a1_1 a1_2 (a1_3.extract 0 ((ji7) : Int).toNat)) else (none)) else (none)) = some r := by first | (rw [hji7] at H; exact H) | (simp only [hji7] at H ⊢; exact H)
  (try (have hji7h : ji7 ≤ 1400 := by (rw [← hji7]; unfold mn; (repeat' split) <;> omega)))
  (try (have hji7g : ji7 ≤ 64 := by omega))
  (try (have hji7l : 0 ≤ ji7 := by (rw [← hji7]; unfold mn; (repeat' split) <;> omega)))
  (try (have hji7m : 0 ≤ ji7 := by omega))
  have hji7_ : (if 1400 < (a1_3.size : Int) then 1400 else (a1_3.size : Int)) = ji7 := hji7
  by_cases c8 : 0 ≤ (ji7)
  ·rw [if_pos c8] at H
   have c8b0 := eq_true c8
   have c8b1 : decide (0 ≤ (ji7)) = true := decide_eq_true c8
   clear c8
   by_cases c9 : (ji7) ≤ (a1_3.size : Int)
   ·rw [if_pos c9] at H
    have c9b0 := eq_true c9
    have c9b1 : decide ((ji7) ≤ (a1_3.size : Int)) = true := decide_eq_true c9
    clear c9
    have H' := Aside0.mk H
    clear H
    have hnb10 := NB666_665.out
    have hnc10 := NB665_666.out
    obtain ⟨hcz11_0, hcz11_1, hcz11_2, hcz11_3⟩ := cells4 BK666.out
    obtain ⟨hfz11_0, hfz11_1, hfz11_2, hfz11_3⟩ := frozen4 BK666.out
    go_wp2_with (first | ((with_reducible refine gate_st (ty := 29) rfl ?_); refine storeC8 rfl rfl rfl rfl rfl qm9d qr2c qg3m rfl ?_) | ((with_reducible refine gate_ld (ty := 29) rfl ?_); (try (with_reducible refine gate_gd rfl ?_; refine gate_guard q8ju ?_; dsimp only)); refine load_st rfl rfl rfl qm9d qr2c Tryd.underlying29 rfl qg3m ?_; (try simp only [Act.put, List.setIfInBounds_toArray, List.set_cons_zero, List.set_cons_succ])) | ((with_reducible refine gate_st (ty := 33) rfl ?_); refine storeC6 rfl rfl rfl rfl rfl qm9d qr2c qg3m rfl ?_) | ((with_reducible refine gate_ld (ty := 33) rfl ?_); (try (with_reducible refine gate_gd rfl ?_; refine gate_guard q8ju ?_; dsimp only)); refine load_st rfl rfl rfl qm9d qr2c Tryd.underlying33 rfl qg3m ?_; (try simp only [Act.put, List.setIfInBounds_toArray, List.set_cons_zero, List.set_cons_succ])) | ((with_reducible refine gate_st (ty := 35) rfl ?_); refine storeC5 rfl rfl rfl rfl rfl qm9d qr2c qg3m rfl ?_) | ((with_reducible refine gate_ld (ty := 35) rfl ?_); (try (with_reducible refine gate_gd rfl ?_; refine gate_guard q8ju ?_; dsimp only)); refine load_st rfl rfl rfl qm9d qr2c Tryd.underlying35 rfl qg3m ?_; (try simp only [Act.put, List.setIfInBounds_toArray, List.set_cons_zero, List.set_cons_succ])) | go_in)
    go_meet
    case rel => exact ⟨_, (a1_3.extract 0 ((ji7) : Int).toNat), H', ⟨qpfc⟩, ⟨qpre⟩, ⟨(by (with_reducible repeat (first | refine blk_drewN ?_ _ | refine blk_drew ?_ | refine blk_alloc ?_ _)); refine blk_put (cs := #[.int .i64 a1_0, .int .i64 a1_1, .bool a1_2, .string a1_3]) ?_ 3 _ rfl; (with_reducible repeat (first | refine blk_drewN ?_ _ | refine blk_drew ?_ | refine blk_alloc ?_ _)); exact BK666.out)⟩, ⟨qqr4⟩⟩
   ·rw [if_neg c9] at H
    exact absurd H q6hr
  ·rw [if_neg c8] at H
   exact absurd H q6hr
 case rest =>
  clear HC4
  try clear c1
  try clear p2
  try clear c6
  try clear c8
  try clear c8b0
  try clear c8b1
  try clear c9
  try clear c9b0
  try clear c9b1
  try clear c10
  obtain ⟨kq, x667003_3, HA, HJ3, BK665, BK666, HB⟩ := hcut
  cases kq with
  | zero => exact absurd HA.out (by simp [gangwaylaw20_StationSpoilt.j0])
  | succ kj3 =>
   have H := HA.out
   clear HA
   simp only [gangwaylaw20_StationSpoilt.j0] at H
   replace H := Option.bind_eq_some_iff.mp H
   obtain ⟨⟨t667, t668⟩, A120, H⟩ := H
   try dsimp only at H
   have A12 := Aside0.mk A120
   clear A120
   have HC13 := Aside0.mk H
   clear H
   have hnb14 := NB666_665.out
   have hnc14 := NB665_666.out
   obtain ⟨hcz15_0, hcz15_1, hcz15_2, hcz15_3⟩ := cells4 BK666.out
   obtain ⟨hfz15_0, hfz15_1, hfz15_2, hfz15_3⟩ := frozen4 BK666.out
   obtain ⟨hcz16_0, hcz16_1, hcz16_2, hcz16_3⟩ := cells4 BK665.out
   obtain ⟨hfz16_0, hfz16_1, hfz16_2, hfz16_3⟩ := frozen4 BK665.out
   go_upto_region 4 with (first | ((with_reducible refine gate_st (ty := 29) rfl ?_); refine storeC8 rfl rfl rfl rfl rfl qm9d qr2c qg3m rfl ?_) | ((with_reducible refine gate_ld (ty := 29) rfl ?_); (try (with_reducible refine gate_gd rfl ?_; refine gate_guard q8ju ?_; dsimp only)); refine load_st rfl rfl rfl qm9d qr2c Tryd.underlying29 rfl qg3m ?_; (try simp only [Act.put, List.setIfInBounds_toArray, List.set_cons_zero, List.set_cons_succ])) | ((with_reducible refine gate_st (ty := 33) rfl ?_); refine storeC6 rfl rfl rfl rfl rfl qm9d qr2c qg3m rfl ?_) | ((with_reducible refine gate_ld (ty := 33) rfl ?_); (try (with_reducible refine gate_gd rfl ?_; refine gate_guard q8ju ?_; dsimp only)); refine load_st rfl rfl rfl qm9d qr2c Tryd.underlying33 rfl qg3m ?_; (try simp only [Act.put, List.setIfInBounds_toArray, List.set_cons_zero, List.set_cons_succ])) | ((with_reducible refine gate_st (ty := 35) rfl ?_); refine storeC5 rfl rfl rfl rfl rfl qm9d qr2c qg3m rfl ?_) | ((with_reducible refine gate_ld (ty := 35) rfl ?_); (try (with_reducible refine gate_gd rfl ?_; refine gate_guard q8ju ?_; dsimp only)); refine load_st rfl rfl rfl qm9d qr2c Tryd.underlying35 rfl qg3m ?_; (try simp only [Act.put, List.setIfInBounds_toArray, List.set_cons_zero, List.set_cons_succ])) | ((with_reducible refine gate_callee (f := 11) rfl ?_); refine goesL_ (some 33) rfl rfl Tryd.func11 qg3m rfl #[.int .u32 a0_0, .int .u32 a0_1, .agg #[.int .i64 a1_0, .int .i64 4789, .bool a1_2, .string x667003_3], .int .i64 a0_2, .int .i64 65536] rfl qraq ?_; (with_reducible refine (station_Make.calls kj3 a0_0 a0_1 a1_0 4789 a1_2 x667003_3 a0_2 65536 t667 t668 _ A12.out).mono ?_); rintro e w17 ⟨rfl, hb⟩; refine ⟨_, rfl, ?_⟩; replace BK665 := Aside0.mk (blk_below (g := gb665) (o := .cells #[.int .u32 a0_0, .int .u32 a0_1, .int .i64 a0_2, .int .i64 a0_3] 41 (0, 0)) qpre hb); replace BK666 := Aside0.mk (blk_below (g := gb666) (o := .cells #[.int .i64 a1_0, .int .i64 4789, .bool a1_2, .string x667003_3] 31 (0, 0)) (by (with_reducible repeat (first | refine blk_drewN ?_ _ | refine blk_drew ?_ | refine blk_alloc ?_ _)); refine blk_put (cs := #[.int .i64 a1_0, .int .i64 a1_1, .bool a1_2, .string x667003_3]) ?_ 1 _ rfl; (with_reducible repeat (first | refine blk_drewN ?_ _ | refine blk_drew ?_ | refine blk_alloc ?_ _)); exact BK666.out) hb); replace HB := Aside0.mk (below_step qqr4 hb); (try clear hb); (try clear hb2); (try clear hk); (try clear hi)))
   (try simp only [Act.put, List.setIfInBounds_toArray, List.set_cons_zero, List.set_cons_succ])
   go_cut [42] (fun v42 wc => ∃ (kq : Nat) (x42_12 : Bool), v42 = .bool x42_12 ∧ Aside0 (gangwaylaw20_StationSpoilt.j1 kq a2 t667 t668 x42_12 a0_0 a0_1 a0_2 a0_3 = some r) ∧ Aside0 (kq ≤ kj3) ∧ Aside0 (wc.heap[gb665]? = some (.cells #[.int .u32 a0_0, .int .u32 a0_1, .int .i64 a0_2, .int .i64 a0_3] 41 (0, 0))) ∧ Aside0 (wc.heap[gb666]? = some (.cells #[.int .i64 a1_0, .int .i64 4789, .bool a1_2, .string x667003_3] 31 (0, 0))) ∧ Aside0 (Below w.heap.size w wc))
   case first =>
    have H := HC13.out
    clear HC13
    by_cases c18 : t668 = 0
    ·rw [if_pos c18] at H
     have c18b0 : (t668 == 0) = true := beq_iff_eq.mpr c18
     have c18b1 : (t668 != 0) = false := bne_eq_false_iff_eq.mpr c18
     clear c18
     (first | rw [c18b0] | (simp only [i64_w, i32_w]; rw [c18b0]) | skip)
     have H' := Aside0.mk H
     clear H
     go_wp2_with (first | ((with_reducible refine gate_st (ty := 29) rfl ?_); refine storeC8 rfl rfl rfl rfl rfl qm9d qr2c qg3m rfl ?_) | ((with_reducible refine gate_ld (ty := 29) rfl ?_); (try (with_reducible refine gate_gd rfl ?_; refine gate_guard q8ju ?_; dsimp only)); refine load_st rfl rfl rfl qm9d qr2c Tryd.underlying29 rfl qg3m ?_; (try simp only [Act.put, List.setIfInBounds_toArray, List.set_cons_zero, List.set_cons_succ])) | ((with_reducible refine gate_st (ty := 33) rfl ?_); refine storeC6 rfl rfl rfl rfl rfl qm9d qr2c qg3m rfl ?_) | ((with_reducible refine gate_ld (ty := 33) rfl ?_); (try (with_reducible refine gate_gd rfl ?_; refine gate_guard q8ju ?_; dsimp only)); refine load_st rfl rfl rfl qm9d qr2c Tryd.underlying33 rfl qg3m ?_; (try simp only [Act.put, List.setIfInBounds_toArray, List.set_cons_zero, List.set_cons_succ])) | ((with_reducible refine gate_st (ty := 35) rfl ?_); refine storeC5 rfl rfl rfl rfl rfl qm9d qr2c qg3m rfl ?_) | ((with_reducible refine gate_ld (ty := 35) rfl ?_); (try (with_reducible refine gate_gd rfl ?_; refine gate_guard q8ju ?_; dsimp only)); refine load_st rfl rfl rfl qm9d qr2c Tryd.underlying35 rfl qg3m ?_; (try simp only [Act.put, List.setIfInBounds_toArray, List.set_cons_zero, List.set_cons_succ])) | go_in)
     go_meet
     case rel => exact ⟨_, (decide ((t667.size : Int) < 28)), q8z4, H', ⟨q6v2⟩, ⟨qd5d⟩, ⟨q0xo⟩, ⟨qqr4⟩⟩
    ·rw [if_neg c18] at H
     have c18b0 : (t668 == 0) = false := beq_eq_false_iff_ne.mpr c18
     have c18b1 : (t668 != 0) = true := bne_iff_ne.mpr c18
     (first | rw [c18b0] | (simp only [i64_w, i32_w]; rw [c18b0]) | skip)
     have H' := Aside0.mk H
     clear H
     go_wp2_with (first | ((with_reducible refine gate_st (ty := 29) rfl ?_); refine storeC8 rfl rfl rfl rfl rfl qm9d qr2c qg3m rfl ?_) | ((with_reducible refine gate_ld (ty := 29) rfl ?_); (try (with_reducible refine gate_gd rfl ?_; refine gate_guard q8ju ?_; dsimp only)); refine load_st rfl rfl rfl qm9d qr2c Tryd.underlying29 rfl qg3m ?_; (try simp only [Act.put, List.setIfInBounds_toArray, List.set_cons_zero, List.set_cons_succ])) | ((with_reducible refine gate_st (ty := 33) rfl ?_); refine storeC6 rfl rfl rfl rfl rfl qm9d qr2c qg3m rfl ?_) | ((with_reducible refine gate_ld (ty := 33) rfl ?_); (try (with_reducible refine gate_gd rfl ?_; refine gate_guard q8ju ?_; dsimp only)); refine load_st rfl rfl rfl qm9d qr2c Tryd.underlying33 rfl qg3m ?_; (try simp only [Act.put, List.setIfInBounds_toArray, List.set_cons_zero, List.set_cons_succ])) | ((with_reducible refine gate_st (ty := 35) rfl ?_); refine storeC5 rfl rfl rfl rfl rfl qm9d qr2c qg3m rfl ?_) | ((with_reducible refine gate_ld (ty := 35) rfl ?_); (try (with_reducible refine gate_gd rfl ?_; refine gate_guard q8ju ?_; dsimp only)); refine load_st rfl rfl rfl qm9d qr2c Tryd.underlying35 rfl qg3m ?_; (try simp only [Act.put, List.setIfInBounds_toArray, List.set_cons_zero, List.set_cons_succ])) | go_in)
     go_meet
     case rel => exact ⟨_, (true), q8z4, H', ⟨q6v2⟩, ⟨qd5d⟩, ⟨q0xo⟩, ⟨qqr4⟩⟩
   case rest =>
    clear HC13
    try clear c1
    try clear p2
    try clear c6
    try clear c8
    try clear c8b0
    try clear c8b1
    try clear c9
    try clear c9b0
    try clear c9b1
    try clear c10
    try clear c11
    try clear c14
    try clear c18
    try clear c18b0
    try clear c18b1
    try clear p2
    obtain ⟨kq, x42_12, rfl, HA, HJ12, BK665, BK666, HB⟩ := hcut
    cases kq with
    | zero => exact absurd HA.out (by simp [gangwaylaw20_StationSpoilt.j1])
    | succ kj12 =>
     have H := HA.out
     clear HA
     simp only [gangwaylaw20_StationSpoilt.j1] at H
     by_cases c19 : x42_12 = true
     ·subst c19
      rw [if_pos rfl] at H
      by_cases c20 : t668 = 0
      ·rw [if_pos c20] at H
       exact absurd H q6hr
      ·rw [if_neg c20] at H
       have c20b0 : (t668 == 0) = false := beq_eq_false_iff_ne.mpr c20
       have c20b1 : (t668 != 0) = true := bne_iff_ne.mpr c20
       replace H := Option.bind_eq_some_iff.mp H
       obtain ⟨t669, A210, H⟩ := H
       try dsimp only at H
       have A21 := Aside0.mk A210
       clear A210
       obtain rfl := Option.some.inj H
       go_wp2_with (first | ((with_reducible refine gate_st (ty := 29) rfl ?_); refine storeC8 rfl rfl rfl rfl rfl qm9d qr2c qg3m rfl ?_) | ((with_reducible refine gate_ld (ty := 29) rfl ?_); (try (with_reducible refine gate_gd rfl ?_; refine gate_guard q8ju ?_; dsimp only)); refine load_st rfl rfl rfl qm9d qr2c Tryd.underlying29 rfl qg3m ?_; (try simp only [Act.put, List.setIfInBounds_toArray, List.set_cons_zero, List.set_cons_succ])) | ((with_reducible refine gate_st (ty := 33) rfl ?_); refine storeC6 rfl rfl rfl rfl rfl qm9d qr2c qg3m rfl ?_) | ((with_reducible refine gate_ld (ty := 33) rfl ?_); (try (with_reducible refine gate_gd rfl ?_; refine gate_guard q8ju ?_; dsimp only)); refine load_st rfl rfl rfl qm9d qr2c Tryd.underlying33 rfl qg3m ?_; (try simp only [Act.put, List.setIfInBounds_toArray, List.set_cons_zero, List.set_cons_succ])) | ((with_reducible refine gate_st (ty := 35) rfl ?_); refine storeC5 rfl rfl rfl rfl rfl qm9d qr2c qg3m rfl ?_) | ((with_reducible refine gate_ld (ty := 35) rfl ?_); (try (with_reducible refine gate_gd rfl ?_; refine gate_guard q8ju ?_; dsimp only)); refine load_st rfl rfl rfl qm9d qr2c Tryd.underlying35 rfl qg3m ?_; (try simp only [Act.put, List.setIfInBounds_toArray, List.set_cons_zero, List.set_cons_succ])) | (go_at_call 10; (with_reducible refine (gangwaylaw20_fixed.calls kj12  t669 _ ?sideL A21.out).mono ?_); (case sideL => exact laid_below HLD.out qqr4); rintro e w22 ⟨rfl, hb⟩; replace BK665 := Aside0.mk (blk_below (g := gb665) qd5d hb); replace BK666 := Aside0.mk (blk_below (g := gb666) q0xo hb); replace HB := Aside0.mk (below_step qqr4 hb); obtain ⟨hcy1_665_0, hcy1_665_1, hcy1_665_2, hcy1_665_3⟩ := cells4 BK665.out; (try clear hb); (try clear hb2); (try clear hk); (try clear hi)))
       go_ret
       exact ⟨qxu5, qqr4⟩
     ·replace c19 := Bool.eq_false_iff.mpr c19
      subst c19
      rw [if_neg (show ¬ (false = true) by decide)] at H
      have HC23 := Aside0.mk H
      clear H
      go_upto_region 6 with (fail)
      go_cut [9] (fun v9 wc => ∃ (kq : Nat) (x9_22 : Int), v9 = .int .i64 x9_22 ∧ Aside0 (gangwaylaw20_StationSpoilt.j2 kq a2 t667 x9_22 a0_0 a0_1 a0_2 a0_3 = some r) ∧ Aside0 (kq ≤ kj12) ∧ Aside0 (wc.heap[gb665]? = some (.cells #[.int .u32 a0_0, .int .u32 a0_1, .int .i64 a0_2, .int .i64 a0_3] 41 (0, 0))) ∧ Aside0 (wc.heap[gb666]? = some (.cells #[.int .i64 a1_0, .int .i64 4789, .bool a1_2, .string x667003_3] 31 (0, 0))) ∧ Aside0 (Below w.heap.size w wc))
      case first =>
       have H := HC23.out
       clear HC23
       by_cases c24 : (t667.size : Int) = 0
       ·rw [if_pos c24] at H
        exact absurd H q6hr
       ·rw [if_neg c24] at H
        have c24b0 : ((t667.size : Int) == 0) = false := beq_eq_false_iff_ne.mpr c24
        have c24b1 : ((t667.size : Int) != 0) = true := bne_iff_ne.mpr c24
        (first | rw [c24b0] | (simp only [i64_w, i32_w]; rw [c24b0]) | skip)
        have H' := Aside0.mk H
        clear H
        go_wp2_with (first | ((with_reducible refine gate_st (ty := 29) rfl ?_); refine storeC8 rfl rfl rfl rfl rfl qm9d qr2c qg3m rfl ?_) | ((with_reducible refine gate_ld (ty := 29) rfl ?_); (try (with_reducible refine gate_gd rfl ?_; refine gate_guard q8ju ?_; dsimp only)); refine load_st rfl rfl rfl qm9d qr2c Tryd.underlying29 rfl qg3m ?_; (try simp only [Act.put, List.setIfInBounds_toArray, List.set_cons_zero, List.set_cons_succ])) | ((with_reducible refine gate_st (ty := 33) rfl ?_); refine storeC6 rfl rfl rfl rfl rfl qm9d qr2c qg3m rfl ?_) | ((with_reducible refine gate_ld (ty := 33) rfl ?_); (try (with_reducible refine gate_gd rfl ?_; refine gate_guard q8ju ?_; dsimp only)); refine load_st rfl rfl rfl qm9d qr2c Tryd.underlying33 rfl qg3m ?_; (try simp only [Act.put, List.setIfInBounds_toArray, List.set_cons_zero, List.set_cons_succ])) | ((with_reducible refine gate_st (ty := 35) rfl ?_); refine storeC5 rfl rfl rfl rfl rfl qm9d qr2c qg3m rfl ?_) | ((with_reducible refine gate_ld (ty := 35) rfl ?_); (try (with_reducible refine gate_gd rfl ?_; refine gate_guard q8ju ?_; dsimp only)); refine load_st rfl rfl rfl qm9d qr2c Tryd.underlying35 rfl qg3m ?_; (try simp only [Act.put, List.setIfInBounds_toArray, List.set_cons_zero, List.set_cons_succ])) | go_in)
        go_meet
        case rel => exact ⟨_, (Int.tmod (Go.bits .and .i64 a2 65535) (t667.size : Int)), q8z4, H', ⟨(by have := HJ3.out; have := HJ12.out; first | omega | exact Nat.le_refl _)⟩, ⟨qd5d⟩, ⟨q0xo⟩, ⟨qqr4⟩⟩
      case rest =>
       clear HC23
       try clear c1
       try clear c2
       try clear p2
       try clear c6
       try clear c8
       try clear c8b0
       try clear c8b1
       try clear c9
       try clear c9b0
       try clear c9b1
       try clear c10
       try clear c11
       try clear c14
       try clear c18
       try clear c18b0
       try clear c18b1
       try clear c19
       try clear c20
       try clear c20b0
       try clear c20b1
       try clear c24
       try clear c24b0
       try clear c24b1
       try clear p2
       obtain ⟨kq, x9_22, rfl, HA, HJ22, BK665, BK666, HB⟩ := hcut
       cases kq with
       | zero => exact absurd HA.out (by simp [gangwaylaw20_StationSpoilt.j2])
       | succ kj22 =>
        have H := HA.out
        clear HA
        simp only [gangwaylaw20_StationSpoilt.j2] at H
        by_cases c25 : 0 ≤ x9_22
        ·rw [if_pos c25] at H
         have c25b0 := eq_true c25
         have c25b1 : decide (0 ≤ x9_22) = true := decide_eq_true c25
         clear c25
         by_cases c26 : x9_22 ≤ (t667.size : Int)
         ·rw [if_pos c26] at H
          have c26b0 := eq_true c26
          have c26b1 : decide (x9_22 ≤ (t667.size : Int)) = true := decide_eq_true c26
          clear c26
          replace H := Option.bind_eq_some_iff.mp H
          obtain ⟨⟨t671, t672, t673, t674, t675, t676, t677, t678, t679, t680, t681⟩, A270, H⟩ := H
          try dsimp only at H
          have A27 := Aside0.mk A270
          clear A270
          have HC28 := Aside0.mk H
          clear H
          go_upto_region 9 with (first | ((with_reducible refine gate_st (ty := 29) rfl ?_); refine storeC8 rfl rfl rfl rfl rfl qm9d qr2c qg3m rfl ?_) | ((with_reducible refine gate_ld (ty := 29) rfl ?_); (try (with_reducible refine gate_gd rfl ?_; refine gate_guard q8ju ?_; dsimp only)); refine load_st rfl rfl rfl qm9d qr2c Tryd.underlying29 rfl qg3m ?_; (try simp only [Act.put, List.setIfInBounds_toArray, List.set_cons_zero, List.set_cons_succ])) | ((with_reducible refine gate_st (ty := 33) rfl ?_); refine storeC6 rfl rfl rfl rfl rfl qm9d qr2c qg3m rfl ?_) | ((with_reducible refine gate_ld (ty := 33) rfl ?_); (try (with_reducible refine gate_gd rfl ?_; refine gate_guard q8ju ?_; dsimp only)); refine load_st rfl rfl rfl qm9d qr2c Tryd.underlying33 rfl qg3m ?_; (try simp only [Act.put, List.setIfInBounds_toArray, List.set_cons_zero, List.set_cons_succ])) | ((with_reducible refine gate_st (ty := 35) rfl ?_); refine storeC5 rfl rfl rfl rfl rfl qm9d qr2c qg3m rfl ?_) | ((with_reducible refine gate_ld (ty := 35) rfl ?_); (try (with_reducible refine gate_gd rfl ?_; refine gate_guard q8ju ?_; dsimp only)); refine load_st rfl rfl rfl qm9d qr2c Tryd.underlying35 rfl qg3m ?_; (try simp only [Act.put, List.setIfInBounds_toArray, List.set_cons_zero, List.set_cons_succ])) | ((with_reducible refine gate_dst (N := 10) rfl ?_); (try (refine gate_guard qgcr ?_; dsimp only)); refine box_event qgcr (N := 10) qgcr (cs := #[.int .u64 0, .int .u64 0, .bool false, .int .i64 0, .bool false, .int .i64 0, .int .i64 0, .string (⟨#[]⟩ : ByteArray)]) (t := 29) qlto ?_; intro gb670 hg w29 hbox hb; have BK670 := Aside0.mk (hbox); have GE670 := Aside0.mk ((by rw [hg]; exact (below_size qqr4) : w.heap.size ≤ gb670)); have NB665_670 := Aside0.mk ((q22x : gb665 ≠ gb670)); have NB670_665 := Aside0.mk ((q4ff : gb670 ≠ gb665)); have NB666_670 := Aside0.mk ((q010 : gb666 ≠ gb670)); have NB670_666 := Aside0.mk ((qlki : gb670 ≠ gb666)); replace BK665 := Aside0.mk (blk_below (g := gb665) qd5d hb); replace BK666 := Aside0.mk (blk_below (g := gb666) q0xo hb); replace HB := Aside0.mk (below_step qqr4 hb); clear hb hbox hg; have hnb30 := NB670_665.out; have hnc30 := NB665_670.out; have hnb31 := NB670_666.out; have hnc31 := NB666_670.out; obtain ⟨hcz32_0, hcz32_1, hcz32_2, hcz32_3, hcz32_4, hcz32_5, hcz32_6, hcz32_7⟩ := cells8 BK670.out; obtain ⟨hfz32_0, hfz32_1, hfz32_2, hfz32_3, hfz32_4, hfz32_5, hfz32_6, hfz32_7⟩ := frozen8 BK670.out; have hnb33 := NB665_666.out; have hnc33 := NB666_665.out; obtain ⟨hcz34_0, hcz34_1, hcz34_2, hcz34_3⟩ := cells4 BK665.out; obtain ⟨hfz34_0, hfz34_1, hfz34_2, hfz34_3⟩ := frozen4 BK665.out) | ((with_reducible refine gate_callee (f := 8) rfl ?_); refine goesL_ (some 61) rfl rfl Tryd.func8 qg3m rfl #[.int .u64 2, .int .u32 a0_1, .agg #[.int .u64 2, .int .u64 6, .bool false, .int .i64 0, .bool false, .int .i64 0, .int .i64 2048, .string (t667.extract 0 (x9_22 : Int).toNat)]] rfl qraq ?_; (with_reducible refine (station_Take.calls kj22 2 a0_1 2 6 false 0 false 0 2048 (t667.extract 0 (x9_22 : Int).toNat) t671 t672 t673 t674 t675 t676 t677 t678 t679 t680 t681 _ ?sideL A27.out).mono ?_); (case sideL => exact laid_below HLD.out q0ht); rintro e w35 ⟨rfl, hb⟩; refine ⟨_, rfl, ?_⟩; replace BK665 := Aside0.mk (blk_below (g := gb665) (o := .cells #[.int .u32 a0_0, .int .u32 a0_1, .int .i64 a0_2, .int .i64 a0_3] 41 (0, 0)) q671 hb); replace BK666 := Aside0.mk (blk_below (g := gb666) (o := .cells #[.int .i64 a1_0, .int .i64 4789, .bool a1_2, .string x667003_3] 31 (0, 0)) quiq hb); replace BK670 := Aside0.mk (blk_below (g := gb670) (o := .cells #[.int .u64 2, .int .u64 6, .bool false, .int .i64 0, .bool false, .int .i64 0, .int .i64 2048, .string (t667.extract 0 (x9_22 : Int).toNat)] 29 (0, 0)) (by (with_reducible repeat (first | refine blk_drewN ?_ _ | refine blk_drew ?_ | refine blk_alloc ?_ _)); exact put8_0_8 q95p) hb); replace HB := Aside0.mk (below_step q0ht hb); (try clear hb); (try clear hb2); (try clear hk); (try clear hi)) | ((with_reducible refine gate_dst (N := 11) rfl ?_); (try (refine gate_guard qgcr ?_; dsimp only)); refine box_event qgcr (N := 11) qgcr (cs := #[.int .i64 0, .int .u32 0, .int .i64 0, .int .i64 0, .bool false, .string (⟨#[]⟩ : ByteArray)]) (t := 33) qlto ?_; intro gb682 hg w36 hbox hb; have BK682 := Aside0.mk (hbox); have GE682 := Aside0.mk ((by rw [hg]; exact (below_size q0ht) : w.heap.size ≤ gb682)); have NB665_682 := Aside0.mk ((q22x : gb665 ≠ gb682)); have NB682_665 := Aside0.mk ((q4ff : gb682 ≠ gb665)); have NB666_682 := Aside0.mk ((q010 : gb666 ≠ gb682)); have NB682_666 := Aside0.mk ((qlki : gb682 ≠ gb666)); have NB670_682 := Aside0.mk ((q6fr : gb670 ≠ gb682)); have NB682_670 := Aside0.mk ((qe32 : gb682 ≠ gb670)); replace BK665 := Aside0.mk (blk_below (g := gb665) qd5d hb); replace BK666 := Aside0.mk (blk_below (g := gb666) q0xo hb); replace BK670 := Aside0.mk (blk_below (g := gb670) q95p hb); replace HB := Aside0.mk (below_step q0ht hb); clear hb hbox hg) | ((with_reducible refine gate_dst (N := 12) rfl ?_); (try (refine gate_guard qgcr ?_; dsimp only)); refine box_event qgcr (N := 12) qgcr (cs := #[.int .i64 0, .int .u64 0, .int .u32 0, .int .u64 0, .int .u32 0]) (t := 35) qlto ?_; intro gb683 hg w37 hbox hb; have BK683 := Aside0.mk (hbox); have GE683 := Aside0.mk ((by rw [hg]; exact (below_size qp8k) : w.heap.size ≤ gb683)); have NB665_683 := Aside0.mk ((q22x : gb665 ≠ gb683)); have NB683_665 := Aside0.mk ((q4ff : gb683 ≠ gb665)); have NB666_683 := Aside0.mk ((q010 : gb666 ≠ gb683)); have NB683_666 := Aside0.mk ((qlki : gb683 ≠ gb666)); have NB670_683 := Aside0.mk ((q6fr : gb670 ≠ gb683)); have NB683_670 := Aside0.mk ((qe32 : gb683 ≠ gb670)); have NB682_683 := Aside0.mk ((by rw [hg]; exact Nat.ne_of_lt (blk_lt (g := gb682) q3n9) : gb682 ≠ gb683)); have NB683_682 := Aside0.mk ((by rw [hg]; exact Nat.ne_of_gt (blk_lt (g := gb682) q3n9) : gb683 ≠ gb682)); replace BK665 := Aside0.mk (blk_below (g := gb665) qd5d hb); replace BK666 := Aside0.mk (blk_below (g := gb666) q0xo hb); replace BK670 := Aside0.mk (blk_below (g := gb670) q95p hb); replace BK682 := Aside0.mk (blk_below (g := gb682) q3n9 hb); replace HB := Aside0.mk (below_step qp8k hb); clear hb hbox hg; have hnb38 := NB682_665.out; have hnc38 := NB665_682.out; have hnb39 := NB682_666.out; have hnc39 := NB666_682.out; have hnb40 := NB682_670.out; have hnc40 := NB670_682.out; have hnb41 := NB682_683.out; have hnc41 := NB683_682.out; obtain ⟨hcz42_0, hcz42_1, hcz42_2, hcz42_3, hcz42_4, hcz42_5⟩ := cells6 BK682.out; obtain ⟨hfz42_0, hfz42_1, hfz42_2, hfz42_3, hfz42_4, hfz42_5⟩ := frozen6 BK682.out; have hnb43 := NB683_665.out; have hnc43 := NB665_683.out; have hnb44 := NB683_666.out; have hnc44 := NB666_683.out; have hnb45 := NB683_670.out; have hnc45 := NB670_683.out; obtain ⟨hcz46_0, hcz46_1, hcz46_2, hcz46_3, hcz46_4⟩ := cells5 BK683.out; obtain ⟨hfz46_0, hfz46_1, hfz46_2, hfz46_3, hfz46_4⟩ := frozen5 BK683.out))
          (try simp only [Act.put, List.setIfInBounds_toArray, List.set_cons_zero, List.set_cons_succ])
          go_cut [13] (fun v13 wc => ∃ (kq : Nat) (x13_27 : Int), v13 = .int .i64 x13_27 ∧ Aside0 (gangwaylaw20_StationSpoilt.j3 kq a2 t667 x13_27 a0_0 a0_1 a0_2 a0_3 2 6 false 0 false 0 2048 (t667.extract 0 (x9_22 : Int).toNat) t671 t672 t673 t674 t675 t676 = some r) ∧ Aside0 (kq ≤ kj22) ∧ Aside0 (wc.heap[gb665]? = some (.cells #[.int .u32 a0_0, .int .u32 a0_1, .int .i64 a0_2, .int .i64 a0_3] 41 (0, 0))) ∧ Aside0 (wc.heap[gb666]? = some (.cells #[.int .i64 a1_0, .int .i64 4789, .bool a1_2, .string x667003_3] 31 (0, 0))) ∧ Aside0 (wc.heap[gb670]? = some (.cells #[.int .u64 2, .int .u64 6, .bool false, .int .i64 0, .bool false, .int .i64 0, .int .i64 2048, .string (t667.extract 0 (x9_22 : Int).toNat)] 29 (0, 0))) ∧ Aside0 (wc.heap[gb682]? = some (.cells #[.int .i64 t671, .int .u32 t672, .int .i64 t673, .int .i64 t674, .bool t675, .string t676] 33 (0, 0))) ∧ Aside0 (wc.heap[gb683]? = some (.cells #[.int .i64 t677, .int .u64 t678, .int .u32 t679, .int .u64 t680, .int .u32 t681] 35 (0, 0))) ∧ Aside0 (Below w.heap.size w wc))
          case first =>
           have H := HC28.out
           clear HC28
           have H' := Aside0.mk H
           clear H
           go_wp2_with (first | ((with_reducible refine gate_st (ty := 29) rfl ?_); refine storeC8 rfl rfl rfl rfl rfl qm9d qr2c qg3m rfl ?_) | ((with_reducible refine gate_ld (ty := 29) rfl ?_); (try (with_reducible refine gate_gd rfl ?_; refine gate_guard q8ju ?_; dsimp only)); refine load_st rfl rfl rfl qm9d qr2c Tryd.underlying29 rfl qg3m ?_; (try simp only [Act.put, List.setIfInBounds_toArray, List.set_cons_zero, List.set_cons_succ])) | ((with_reducible refine gate_st (ty := 33) rfl ?_); refine storeC6 rfl rfl rfl rfl rfl qm9d qr2c qg3m rfl ?_) | ((with_reducible refine gate_ld (ty := 33) rfl ?_); (try (with_reducible refine gate_gd rfl ?_; refine gate_guard q8ju ?_; dsimp only)); refine load_st rfl rfl rfl qm9d qr2c Tryd.underlying33 rfl qg3m ?_; (try simp only [Act.put, List.setIfInBounds_toArray, List.set_cons_zero, List.set_cons_succ])) | ((with_reducible refine gate_st (ty := 35) rfl ?_); refine storeC5 rfl rfl rfl rfl rfl qm9d qr2c qg3m rfl ?_) | ((with_reducible refine gate_ld (ty := 35) rfl ?_); (try (with_reducible refine gate_gd rfl ?_; refine gate_guard q8ju ?_; dsimp only)); refine load_st rfl rfl rfl qm9d qr2c Tryd.underlying35 rfl qg3m ?_; (try simp only [Act.put, List.setIfInBounds_toArray, List.set_cons_zero, List.set_cons_succ])) | go_in)
           go_meet
           case rel => exact ⟨_, (Int.tmod (Go.bits .and .i64 a2 65535) 20), q8z4, H', ⟨(by have := HJ3.out; have := HJ12.out; have := HJ22.out; first | omega | exact Nat.le_refl _)⟩, ⟨(by (with_reducible repeat (first | refine blk_drewN ?_ _ | refine blk_drew ?_ | refine blk_alloc ?_ _ | refine blk_far ?_ NB665_683.out _ | refine blk_far ?_ NB665_682.out _)); exact BK665.out)⟩, ⟨(by (with_reducible repeat (first | refine blk_drewN ?_ _ | refine blk_drew ?_ | refine blk_alloc ?_ _ | refine blk_far ?_ NB666_683.out _ | refine blk_far ?_ NB666_682.out _)); exact BK666.out)⟩, ⟨(by (with_reducible repeat (first | refine blk_drewN ?_ _ | refine blk_drew ?_ | refine blk_alloc ?_ _ | refine blk_far ?_ NB670_683.out _ | refine blk_far ?_ NB670_682.out _)); exact BK670.out)⟩, ⟨(by (with_reducible repeat (first | refine blk_drewN ?_ _ | refine blk_drew ?_ | refine blk_alloc ?_ _ | refine blk_far ?_ NB682_683.out _)); exact put6_0_6 q3n9)⟩, ⟨(by (with_reducible repeat (first | refine blk_drewN ?_ _ | refine blk_drew ?_ | refine blk_alloc ?_ _)); exact put5_0_5 (by (with_reducible repeat (first | refine blk_drewN ?_ _ | refine blk_drew ?_ | refine blk_alloc ?_ _ | refine blk_far ?_ NB683_682.out _)); exact BK683.out))⟩, ⟨q03v⟩⟩
          case rest =>
           clear HC28
           try clear c1
           try clear c2
           try clear p2
           try clear c3
           try clear c4
           try clear c6
           try clear c8
           try clear c8b0
           try clear c8b1
           try clear c9
           try clear c9b0
           try clear c9b1
           try clear c10
           try clear c11
           try clear c14
           try clear c18
           try clear c18b0
           try clear c18b1
           try clear c19
           try clear c20
           try clear c20b0
           try clear c20b1
           try clear c24
           try clear c24b0
           try clear c24b1
           try clear c25
           try clear c25b0
           try clear c25b1
           try clear c26
           try clear c26b0
           try clear c26b1
           try clear c30
           try clear c31
           try clear c33
           try clear c38
           try clear c39
           try clear c40
           try clear c41
           try clear c43
           try clear c44
           try clear c45
           try clear p2
           obtain ⟨kq, x13_27, rfl, HA, HJ27, BK665, BK666, BK670, BK682, BK683, HB⟩ := hcut
           cases kq with
           | zero => exact absurd HA.out (by simp [gangwaylaw20_StationSpoilt.j3])
           | succ kj27 =>
            have H := HA.out
            clear HA
            simp only [gangwaylaw20_StationSpoilt.j3] at H
            by_cases c47 : 0 ≤ x13_27
            ·rw [if_pos c47] at H
             have c47b0 := eq_true c47
             have c47b1 : decide (0 ≤ x13_27) = true := decide_eq_true c47
             clear c47
             by_cases c48 : x13_27 ≤ (t667.size : Int)
             ·rw [if_pos c48] at H
              have c48b0 := eq_true c48
              have c48b1 : decide (x13_27 ≤ (t667.size : Int)) = true := decide_eq_true c48
              clear c48
              by_cases c49 : x13_27 < (t667.size : Int)
              ·rw [if_pos c49] at H
               have c49b0 : decide (x13_27 < (t667.size : Int)) = true := decide_eq_true c49
               clear c49
               obtain ⟨y684, hy684⟩ : ∃ y_ : List Int, y_ = (([Go.bits .xor .u8 (bt t667 x13_27) ((wrap64 (1 + (Go.bits .and .i64 (a2 / 1048576) 127))) % 256)] : List Int)) := ⟨_, rfl⟩
               replace H : (if (t667.extract 0 (x13_27 : Int).toNat).size + (strOfNums y684).size ≤ 9223372036854775807 then (if 0 ≤ (wrap64 (x13_27 + 1)) then (if (wrap64 (x13_27 + 1)) ≤ (t667.size : Int) then (if ((t667.extract 0 (x13_27 : Int).toNat) ++ (strOfNums y684)).size + (t667.extract ((wrap64 (x13_27 + 1)) : Int).toNat t667.size).size ≤ 9223372036854775807 then ((station_Take.f kj27 2 a0_1 2 6 false 0 false 0 2048 (((t667.extract 0 (x13_27 : Int).toNat) ++ (strOfNums y684)) ++ (t667.extract ((wrap64 (x13_27 + 1)) : Int).toNat t667.size))).bind fun bt687 => (if (t671 == 4 && (t672 == 0 && ((t673 == 0 && (t674 == 0 && (!t675 && (t676.toList == ([] : List UInt8)))))))) = true then (if (bt687.1 == 4 && (bt687.2.1 == 0 && ((bt687.2.2.1 == 0 && (bt687.2.2.2.1 == 0 && (!bt687.2.2.2.2.1 && (bt687.2.2.2.2.2.1.toList == ([] : List UInt8)))))))) = true then ((gangwaylaw20_fixed.f kj27).bind fun t700 => (some t700)) else (none)) else (none))) else (none)) else (none)) else (none)) else (none)) = some r := by first | (rw [hy684]; with_reducible exact H) | (have H2_ := (Option.bind_some _ _).symm.trans H; rw [hy684]; with_reducible exact H2_) | (have H2_ := (Option.bind_some _ _).symm.trans H; with_reducible exact H2_) | with_reducible exact H | (rw [hy684]; exact H) | exact H
               have Ny684 := Aside0.mk hy684
               clear hy684
               by_cases c51 : (t667.extract 0 (x13_27 : Int).toNat).size + (strOfNums y684).size ≤ 9223372036854775807
               ·rw [if_pos c51] at H
                have c51b0 := eq_true c51
                have c51b1 : decide ((t667.extract 0 (x13_27 : Int).toNat).size + (strOfNums y684).size ≤ 9223372036854775807) = true := decide_eq_true c51
                try have c51b2 : (9223372036854775807 < (t667.extract 0 (x13_27 : Int).toNat).size + (strOfNums y684).size) = False := eq_false (Nat.not_lt.2 c51)
                obtain ⟨ji52, hji52⟩ : ∃ j_ : Int, (wrap64 (x13_27 + 1)) = j_ := ⟨_, rfl⟩
                replace H : (if 0 ≤ (ji52) then (if (ji52) ≤ (t667.size : Int) then (if ((t667.extract 0 (x13_27 : Int).toNat) ++ (strOfNums y684)).size + (t667.extract ((ji52) : Int).toNat t667.size).size ≤ 9223372036854775807 then ((station_Take.f kj27 2 a0_1 2 6 false 0 false 0 2048 (((t667.extract 0 (x13_27 : Int).toNat) ++ (strOfNums y684)) ++ (t667.extract ((ji52) : Int).toNat t667.size))).bind fun bt687 => (if (t671 == 4 && (t672 == 0 && ((t673 == 0 && (t674 == 0 && (!t675 && (t676.toList == ([] : List UInt8)))))))) = true then (if (bt687.1 == 4 && (bt687.2.1 == 0 && ((bt687.2.2.1 == 0 && (bt687.2.2.2.1 == 0 && (!bt687.2.2.2.2.1 && (bt687.2.2.2.2.2.1.toList == ([] : List UInt8)))))))) = true then ((gangwaylaw20_fixed.f kj27).bind fun t700 => (some t700)) else (none)) else (none))) else (none)) else (none)) else (none)) = some r := by first | (rw [hji52] at H; exact H) | (simp only [hji52] at H ⊢; exact H)
                have hji52w : (IntKind.i64.wrap (x13_27 + 1)) = ji52 := (i64_w _).trans hji52
                by_cases c53 : 0 ≤ (ji52)
                ·rw [if_pos c53] at H
                 have c53b0 := eq_true c53
                 have c53b1 : decide (0 ≤ (ji52)) = true := decide_eq_true c53
                 clear c53
                 by_cases c54 : (ji52) ≤ (t667.size : Int)
                 ·rw [if_pos c54] at H
                  have c54b0 := eq_true c54
                  have c54b1 : decide ((ji52) ≤ (t667.size : Int)) = true := decide_eq_true c54
                  clear c54
                  by_cases c55 : ((t667.extract 0 (x13_27 : Int).toNat) ++ (strOfNums y684)).size + (t667.extract ((ji52) : Int).toNat t667.size).size ≤ 9223372036854775807
                  ·rw [if_pos c55] at H
                   have c55b0 := eq_true c55
                   have c55b1 : decide (((t667.extract 0 (x13_27 : Int).toNat) ++ (strOfNums y684)).size + (t667.extract ((ji52) : Int).toNat t667.size).size ≤ 9223372036854775807) = true := decide_eq_true c55
                   have c55z := c55
                   simp only [ByteArray.size_append] at c55z
                   have c55z1 := eq_true c55z
                   have c55z2 := eq_false (Nat.not_lt.2 c55z)
                   try have c55b2 : (9223372036854775807 < ((t667.extract 0 (x13_27 : Int).toNat) ++ (strOfNums y684)).size + (t667.extract ((ji52) : Int).toNat t667.size).size) = False := eq_false (Nat.not_lt.2 c55)
                   replace H := Option.bind_eq_some_iff.mp H
                   obtain ⟨⟨t687, t688, t689, t690, t691, t692, t693, t694, t695, t696, t697⟩, A560, H⟩ := H
                   try dsimp only at H
                   have A56 := Aside0.mk A560
                   clear A560
                   by_cases c57 : (t671 == 4 && (t672 == 0 && ((t673 == 0 && (t674 == 0 && (!t675 && (t676.toList == ([] : List UInt8)))))))) = true
                   ·rw [if_pos c57] at H
                    have c57b0 : (t671 == 4 && (t672 == 0 && ((t673 == 0 && (t674 == 0 && (!t675 && (t676.toList == ([] : List UInt8)))))))) = true := c57
                    try (have c57p := eq_true (show t671 = 4 ∧ (t672 = 0 ∧ ((t673 = 0 ∧ (t674 = 0 ∧ (t675 = false ∧ (t676.toList = ([] : List UInt8))))))) from by simpa using c57))
                    (try (have c57b1 : decide (t671 = 4 && (t672 == 0 && ((t673 == 0 && (t674 == 0 && (!t675 && (t676.toList == ([] : List UInt8)))))))) = true := by simpa using c57))
                    (try (have c57b2 : (t671 == 4 && (t672 == 0 && ((t673 == 0 && (t674 == 0 && (!t675 && (t676.toList == ([] : List UInt8)))))))) = true := by simpa using c57))
                    clear c57
                    by_cases c58 : (t687 == 4 && (t688 == 0 && ((t689 == 0 && (t690 == 0 && (!t691 && (t692.toList == ([] : List UInt8)))))))) = true
                    ·rw [if_pos c58] at H
                     have c58b0 : (t687 == 4 && (t688 == 0 && ((t689 == 0 && (t690 == 0 && (!t691 && (t692.toList == ([] : List UInt8)))))))) = true := c58
                     try (have c58p := eq_true (show t687 = 4 ∧ (t688 = 0 ∧ ((t689 = 0 ∧ (t690 = 0 ∧ (t691 = false ∧ (t692.toList = ([] : List UInt8))))))) from by simpa using c58))
                     (try (have c58b1 : decide (t687 = 4 && (t688 == 0 && ((t689 == 0 && (t690 == 0 && (!t691 && (t692.toList == ([] : List UInt8)))))))) = true := by simpa using c58))
                     (try (have c58b2 : (t687 == 4 && (t688 == 0 && ((t689 == 0 && (t690 == 0 && (!t691 && (t692.toList == ([] : List UInt8)))))))) = true := by simpa using c58))
                     clear c58
                     replace H := Option.bind_eq_some_iff.mp H
                     obtain ⟨t700, A590, H⟩ := H
                     try dsimp only at H
                     have A59 := Aside0.mk A590
                     clear A590
                     obtain rfl := Option.some.inj H
                     try go_wp2_with (first | ((with_reducible refine gate_st (ty := 29) rfl ?_); refine storeC8 rfl rfl rfl rfl rfl qm9d qr2c qg3m rfl ?_) | ((with_reducible refine gate_ld (ty := 29) rfl ?_); (try (with_reducible refine gate_gd rfl ?_; refine gate_guard q8ju ?_; dsimp only)); refine load_st rfl rfl rfl qm9d qr2c Tryd.underlying29 rfl qg3m ?_; (try simp only [Act.put, List.setIfInBounds_toArray, List.set_cons_zero, List.set_cons_succ])) | ((with_reducible refine gate_st (ty := 33) rfl ?_); refine storeC6 rfl rfl rfl rfl rfl qm9d qr2c qg3m rfl ?_) | ((with_reducible refine gate_ld (ty := 33) rfl ?_); (try (with_reducible refine gate_gd rfl ?_; refine gate_guard q8ju ?_; dsimp only)); refine load_st rfl rfl rfl qm9d qr2c Tryd.underlying33 rfl qg3m ?_; (try simp only [Act.put, List.setIfInBounds_toArray, List.set_cons_zero, List.set_cons_succ])) | ((with_reducible refine gate_st (ty := 35) rfl ?_); refine storeC5 rfl rfl rfl rfl rfl qm9d qr2c qg3m rfl ?_) | ((with_reducible refine gate_ld (ty := 35) rfl ?_); (try (with_reducible refine gate_gd rfl ?_; refine gate_guard q8ju ?_; dsimp only)); refine load_st rfl rfl rfl qm9d qr2c Tryd.underlying35 rfl qg3m ?_; (try simp only [Act.put, List.setIfInBounds_toArray, List.set_cons_zero, List.set_cons_succ])) | go_in)
                     replace BK665 := Aside0.mk (blk_drew BK665.out)
                     replace BK666 := Aside0.mk (blk_drew BK666.out)
                     replace BK670 := Aside0.mk (blk_drew BK670.out)
                     replace BK682 := Aside0.mk (blk_drew BK682.out)
                     replace BK683 := Aside0.mk (blk_drew BK683.out)
                     replace HB := Aside0.mk (below_drew1 HB.out)
                     have p50 : 0 ≤ (x13_27 : Int) := of_decide_eq_true qlss
                     have q50 : x13_27 < (t667.size : Int) := of_decide_eq_true qlss
                     have hx50 := bt_at t667 x13_27
                     replace p50 := eq_true p50
                     replace q50 := eq_true q50
                     refine start_ (n := 22) (S := fun w' => True) (ds := []) (ba 22 0) qg3m rfl rfl trivial (fun hHeld => ?_); refine with_tabW gangwaylaw20_StationSpoilt.tab10 gangwaylaw20_StationSpoilt.bits10 (fun HT_ HW_ => ?_)
                     generalize wc.drew = w60 at BK665 BK666 BK670 BK682 BK683 HB hHeld ⊢
                     refine pure_ (i := 0) (N := some 67) (v := ?_) (a' := ?_) (ba 22 1) rfl rfl (any_of HT_.out qg3m) (fun _ _ _ h => h) (Or.inl ⟨qgcr, ?_⟩) ?_ ?_
                     rotate_left
                     ·intro w'
                      go_simp
                      with_reducible rfl
                     rotate_left
                     ·exact z46_0
                     refine pure_ (i := 1) (N := some 68) (v := ?_) (a' := ?_) (ba 22 3) rfl rfl (any_of HT_.out qg3m) (fun _ _ _ h => h) (Or.inl ⟨qgcr, ?_⟩) ?_ ?_
                     rotate_left
                     ·intro w'
                      go_simp
                      with_reducible rfl
                     rotate_left
                     ·exact z46_0
                     refine pure_ (i := 2) (N := some 69) (v := ?_) (a' := ?_) (ba 22 7) rfl rfl (any_of HT_.out qg3m) (fun _ _ _ h => h) (Or.inl ⟨qgcr, ?_⟩) ?_ ?_
                     rotate_left
                     ·intro w'
                      go_simp
                      with_reducible rfl
                     rotate_left
                     ·exact z46_0
                     refine pure_ (i := 3) (N := some 70) (v := ?_) (a' := ?_) (ba 22 15) rfl rfl (any_of HT_.out qg3m) (fun _ _ _ h => h) (Or.inl ⟨qgcr, ?_⟩) ?_ ?_
                     rotate_left
                     ·intro w'
                      go_simp
                      with_reducible rfl
                     rotate_left
                     ·exact z46_0
                     refine pure_ (i := 4) (N := some 71) (v := ?_) (a' := ?_) (ba 22 31) rfl rfl (any_of HT_.out qg3m) (fun _ _ _ h => h) (Or.inl ⟨qgcr, ?_⟩) ?_ ?_
                     rotate_left
                     ·intro w'
                      go_simp
                      with_reducible rfl
                     rotate_left
                     ·exact z46_0
                     refine pure_ (i := 6) (N := some 73) (v := ?_) (a' := ?_) (ba 22 95) rfl rfl (any_of HT_.out qg3m) (fun _ _ _ h => h) (Or.inl ⟨qgcr, ?_⟩) ?_ ?_
                     rotate_left
                     ·intro w'
                      go_simp
                      with_reducible rfl
                     rotate_left
                     ·exact z46_0
                     refine pure_ (i := 7) (N := some 74) (v := ?_) (a' := ?_) (ba 22 223) rfl rfl (any_of HT_.out qg3m) (fun _ _ _ h => h) (Or.inl ⟨qgcr, ?_⟩) ?_ ?_
                     rotate_left
                     ·intro w'
                      go_simp
                      with_reducible rfl
                     rotate_left
                     ·exact z46_0
                     refine pure_ (i := 8) (N := some 75) (v := ?_) (a' := ?_) (ba 22 479) rfl rfl (any_of HT_.out qg3m) (fun _ _ _ h => h) (Or.inl ⟨qgcr, ?_⟩) ?_ ?_
                     rotate_left
                     ·intro w'
                      go_simp
                      with_reducible rfl
                     rotate_left
                     ·exact z46_0
                     refine pure_ (i := 9) (N := some 76) (v := ?_) (a' := ?_) (ba 22 991) rfl rfl (any_of HT_.out qg3m) (fun _ _ _ h => h) (Or.inl ⟨qgcr, ?_⟩) ?_ ?_
                     rotate_left
                     ·intro w'
                      go_simp
                      with_reducible rfl
                     rotate_left
                     ·exact z46_0
                     refine pure_ (i := 10) (N := some 77) (v := ?_) (a' := ?_) (ba 22 2015) rfl rfl (any_of HT_.out qg3m) (fun _ _ _ h => h) (Or.inl ⟨qgcr, ?_⟩) ?_ ?_
                     rotate_left
                     ·intro w'
                      go_simp
                      with_reducible rfl
                     rotate_left
                     ·exact z46_0
                     refine pure_ (i := 15) (N := some 82) (v := ?_) (a' := ?_) (ba 22 34783) rfl rfl (any_of HT_.out qg3m) (fun _ _ _ h => h) (Or.inl ⟨qgcr, ?_⟩) ?_ ?_
                     rotate_left
                     ·intro w'
                      go_simp
                      with_reducible rfl
                     rotate_left
                     ·exact z46_0
                     refine pure_ (i := 16) (N := some 83) (v := ?_) (a' := ?_) (ba 22 100319) rfl rfl (any_of HT_.out qg3m) (fun _ _ _ h => h) (Or.inl ⟨qgcr, ?_⟩) ?_ ?_
                     rotate_left
                     ·intro w'
                      go_simp
                      with_reducible rfl
                     rotate_left
                     ·exact z46_0
                     refine pure_ (i := 17) (N := some 84) (v := ?_) (a' := ?_) (ba 22 231391) rfl rfl (any_of HT_.out qg3m) (fun _ _ _ h => h) (Or.inl ⟨qgcr, ?_⟩) ?_ ?_
                     rotate_left
                     ·intro w'
                      go_simp
                      with_reducible rfl
                     rotate_left
                     ·exact z46_0
                     refine pure_ (i := 18) (N := some 85) (v := ?_) (a' := ?_) (ba 22 493535) rfl rfl (any_of HT_.out qg3m) (fun _ _ _ h => h) (Or.inl ⟨qgcr, ?_⟩) ?_ ?_
                     rotate_left
                     ·intro w'
                      go_simp
                      with_reducible rfl
                     rotate_left
                     ·exact z46_0
                     refine take_ (i := 5) (N := some 72) (v := ?_) (a' := ?_) (ba 22 493567) rfl rfl (take_ofW HT_.out HW_.out qg3m) (fun _ _ _ h => h) (Or.inl ⟨qgcr, ?_⟩) hHeld ?_ ?_
                     rotate_left
                     ·intro w' _
                      go_simp
                      with_reducible rfl
                     rotate_left
                     ·exact z46_0
                     refine pure_ (i := 11) (N := some 78) (v := ?_) (a' := ?_) (ba 22 495615) rfl rfl (any_of HT_.out qg3m) (fun _ _ _ h => h) (Or.inl ⟨qgcr, ?_⟩) ?_ ?_
                     rotate_left
                     ·intro w'
                      go_simp
                      with_reducible rfl
                     rotate_left
                     ·exact z46_0
                     refine one_ (i := 12) (N := some 79) (ba 22 499711) rfl rfl (one_of HT_.out qg3m) qomw (fun K hK => ?_)
                     refine Kd.R_lit_step (Kd.int .u8) _ 5 ?hg (N := 79) ?hd (xs := ([Go.bits .xor .u8 (bt t667 x13_27) ((wrap64 (1 + (Go.bits .and .i64 (a2 / 1048576) 127))) % 256)] : List Int)) (inner := [.int .u8 (Go.bits .xor .u8 (bt t667 x13_27) ((wrap64 (1 + (Go.bits .and .i64 (a2 / 1048576) 127))) % 256))]) (ok := fun _ => True) (okp := fun _ => True) ?hr ?hp (fun _ hk => hk) trivial (Below.refl _ _) (Nat.le_refl _) q6hr ?_; (case hd => rfl); (case hg => rfl); (case hr => first | (go_simp; done) | (go_simp; rfl)); (case hp => exact (Reps.one (show Kd.M (Kd.int .u8) _ _ _ (Go.bits .xor .u8 (bt t667 x13_27) ((wrap64 (1 + (Go.bits .and .i64 (a2 / 1048576) 127))) % 256)) [.int .u8 (Go.bits .xor .u8 (bt t667 x13_27) ((wrap64 (1 + (Go.bits .and .i64 (a2 / 1048576) 127))) % 256))] from rfl) (Reps.none _ _)))
                     intro v685 w61 ho62 hb hg_ hnew_
                     clear hg_ hnew_
                     (first | rw [← Ny684.out] at ho62 | (simp only [Int.reduceToNat] at ho62; rw [← Ny684.out] at ho62))
                     have HO686 := Aside0.mk (Kd.R_lower ho62 (below_size q03v))
                     replace BK665 := Aside0.mk (blk_below (g := gb665) (o := .cells #[.int .u32 a0_0, .int .u32 a0_1, .int .i64 a0_2, .int .i64 a0_3] 41 (0, 0)) qd5d hb)
                     replace BK666 := Aside0.mk (blk_below (g := gb666) (o := .cells #[.int .i64 a1_0, .int .i64 4789, .bool a1_2, .string x667003_3] 31 (0, 0)) q0xo hb)
                     replace BK670 := Aside0.mk (blk_below (g := gb670) (o := .cells #[.int .u64 2, .int .u64 6, .bool false, .int .i64 0, .bool false, .int .i64 0, .int .i64 2048, .string (t667.extract 0 (x9_22 : Int).toNat)] 29 (0, 0)) q95p hb)
                     replace BK682 := Aside0.mk (blk_below (g := gb682) (o := .cells #[.int .i64 t671, .int .u32 t672, .int .i64 t673, .int .i64 t674, .bool t675, .string t676] 33 (0, 0)) q3n9 hb)
                     replace BK683 := Aside0.mk (blk_below (g := gb683) (o := .cells #[.int .i64 t677, .int .u64 t678, .int .u32 t679, .int .u64 t680, .int .u32 t681] 35 (0, 0)) q60y hb)
                     replace HB := Aside0.mk (below_step q03v hb)
                     clear hb ho62
                     refine hK.out _ _ trivial (fun hHeld => ?_)
                     clear hK K
                     refine norm_ (a' := ?_) ?_ ?_
                     rotate_left
                     ·show Act.put _ (some 79) _ = _
                      simp only [Act.put, List.setIfInBounds_toArray, List.set_cons_zero, List.set_cons_succ, i64_w, i32_w]
                      rfl
                     refine one_ (i := 13) (N := some 80) (ba 22 507903) rfl rfl (one_of HT_.out qg3m) qomw (fun K hK => ?_)
                     have hcv63 := own_string (P := Tryd.prog) Tryd.underlying48 Tryd.underlying5 Tryd.underlying9 (Kd.own_of_R HO686.out)
                     refine value_ (w1 := ?_) (v := ?_) qgcr rfl ?_ ?_
                     rotate_left 2
                     ·go_simp
                      constructor
                      ·rfl
                      ·rfl
                     clear hcv63
                     refine hK.out _ _ trivial (fun hHeld => ?_)
                     clear hK K
                     refine norm_ (a' := ?_) ?_ ?_
                     rotate_left
                     ·show Act.put _ (some 80) _ = _
                      simp only [Act.put, List.setIfInBounds_toArray, List.set_cons_zero, List.set_cons_succ, i64_w, i32_w]
                      rfl
                     refine pure_ (i := 14) (N := some 81) (v := ?_) (a' := ?_) (ba 22 524287) rfl rfl (any_of HT_.out qg3m) (fun _ _ _ h => h) (Or.inl ⟨qgcr, ?_⟩) ?_ ?_
                     rotate_left
                     ·intro w'
                      go_simp
                      first | with_reducible rfl | (rw [if_neg qt9b]; try with_reducible rfl)
                     rotate_left
                     ·exact z46_0
                     refine pure_ (i := 19) (N := some 86) (v := ?_) (a' := ?_) (ba 22 1048575) rfl rfl (any_of HT_.out qg3m) (fun _ _ _ h => h) (Or.inl ⟨qgcr, ?_⟩) ?_ ?_
                     rotate_left
                     ·intro w'
                      go_simp
                      first | with_reducible rfl | (rw [if_neg qt9b]; try with_reducible rfl)
                     rotate_left
                     ·exact z46_0
                     refine pure_ (i := 20) (N := some 87) (v := ?_) (a' := ?_) (ba 22 2097151) rfl rfl (any_of HT_.out qg3m) (fun _ _ _ h => h) (Or.inl ⟨qgcr, ?_⟩) ?_ ?_
                     rotate_left
                     ·intro w'
                      go_simp
                      with_reducible rfl
                     rotate_left
                     ·exact z46_0
                     refine one_ (i := 21) (N := none) (ba 22 4194303) rfl rfl (one_of HT_.out qg3m) qomw (fun K hK => ?_)
                     have hs64 : w61.cell? ⟨gb670, 7, none⟩ = some (.string (t667.extract 0 (x9_22 : Int).toNat)) := (blk_cell BK670.out 7).trans rfl
                     have hfs64 := blk_frozen BK670.out 7
                     have hns64_0 := NB665_670.out
                     have hns64_1 := NB666_670.out
                     have hns64_3 := NB682_670.out
                     have hns64_4 := NB683_670.out
                     have hms64_0 := NB670_665.out
                     have hms64_1 := NB670_666.out
                     have hms64_3 := NB670_682.out
                     have hms64_4 := NB670_683.out
                     refine skip_ (w1 := ?_) qgcr rfl ?_ ?_
                     rotate_left
                     ·go_simp
                      rfl
                     refine hK.out _ _ trivial (fun hHeld => ?_)
                     clear hK K
                     refine done_ (done_of HT_.out qg3m) ?_
                     have hnb65 := NB665_666.out
                     have hnc65 := NB666_665.out
                     have hnb66 := NB665_670.out
                     have hnc66 := NB670_665.out
                     have hnb67 := NB665_682.out
                     have hnc67 := NB682_665.out
                     have hnb68 := NB665_683.out
                     have hnc68 := NB683_665.out
                     obtain ⟨hcz69_0, hcz69_1, hcz69_2, hcz69_3⟩ := cells4 BK665.out
                     obtain ⟨hfz69_0, hfz69_1, hfz69_2, hfz69_3⟩ := frozen4 BK665.out
                     have hnb70 := NB670_666.out
                     have hnc70 := NB666_670.out
                     have hnb71 := NB670_682.out
                     have hnc71 := NB682_670.out
                     have hnb72 := NB670_683.out
                     have hnc72 := NB683_670.out
                     obtain ⟨hcz73_0, hcz73_1, hcz73_2, hcz73_3, hcz73_4, hcz73_5, hcz73_6, hcz73_7⟩ := cells8 BK670.out
                     obtain ⟨hfz73_0, hfz73_1, hfz73_2, hfz73_3, hfz73_4, hfz73_5, hfz73_6, hfz73_7⟩ := frozen8 BK670.out
                     try go_wp2_with (first | ((with_reducible refine gate_st (ty := 29) rfl ?_); refine storeC8 rfl rfl rfl rfl rfl qm9d qr2c qg3m rfl ?_) | ((with_reducible refine gate_ld (ty := 29) rfl ?_); (try (with_reducible refine gate_gd rfl ?_; refine gate_guard q8ju ?_; dsimp only)); refine load_st rfl rfl rfl qm9d qr2c Tryd.underlying29 rfl qg3m ?_; (try simp only [Act.put, List.setIfInBounds_toArray, List.set_cons_zero, List.set_cons_succ])) | ((with_reducible refine gate_st (ty := 33) rfl ?_); refine storeC6 rfl rfl rfl rfl rfl qm9d qr2c qg3m rfl ?_) | ((with_reducible refine gate_ld (ty := 33) rfl ?_); (try (with_reducible refine gate_gd rfl ?_; refine gate_guard q8ju ?_; dsimp only)); refine load_st rfl rfl rfl qm9d qr2c Tryd.underlying33 rfl qg3m ?_; (try simp only [Act.put, List.setIfInBounds_toArray, List.set_cons_zero, List.set_cons_succ])) | ((with_reducible refine gate_st (ty := 35) rfl ?_); refine storeC5 rfl rfl rfl rfl rfl qm9d qr2c qg3m rfl ?_) | ((with_reducible refine gate_ld (ty := 35) rfl ?_); (try (with_reducible refine gate_gd rfl ?_; refine gate_guard q8ju ?_; dsimp only)); refine load_st rfl rfl rfl qm9d qr2c Tryd.underlying35 rfl qg3m ?_; (try simp only [Act.put, List.setIfInBounds_toArray, List.set_cons_zero, List.set_cons_succ])) | ((with_reducible refine gate_callee (f := 8) rfl ?_); refine goesL_ (some 92) rfl rfl Tryd.func8 qg3m rfl #[.int .u64 2, .int .u32 a0_1, .agg #[.int .u64 2, .int .u64 6, .bool false, .int .i64 0, .bool false, .int .i64 0, .int .i64 2048, .string (((t667.extract 0 (x13_27 : Int).toNat) ++ (strOfNums y684)) ++ (t667.extract ((ji52) : Int).toNat t667.size))]] rfl (by (try simp only [List.map_toArray, List.map_cons, List.map_nil]); first | done | (simp only [hji52]; rfl) | rfl | (simp only [List.length_drop, List.length_take]; rfl)) ?_; (with_reducible refine (station_Take.calls kj27 2 a0_1 2 6 false 0 false 0 2048 (((t667.extract 0 (x13_27 : Int).toNat) ++ (strOfNums y684)) ++ (t667.extract ((ji52) : Int).toNat t667.size)) t687 t688 t689 t690 t691 t692 t693 t694 t695 t696 t697 _ ?sideL A56.out).mono ?_); (case sideL => exact laid_below HLD.out q03v); rintro e w74 ⟨rfl, hb⟩; refine ⟨_, rfl, ?_⟩; replace HO686 := Aside0.mk (Kd.R_below (by (with_reducible repeat (first | apply Kd.R_alloc | apply Kd.R_drewN | apply Kd.R_drew)); exact (Kd.R_mono (Kd.R_far (p := ⟨gb670, 7, none⟩) (Kd.R_types HO686.out BK670.out qomw) (fun _ hk => by first | exact hk.2 | exact trivial | exact hk) (.string (((t667.extract 0 (x13_27 : Int).toNat) ++ (strOfNums y684)) ++ (t667.extract ((ji52) : Int).toNat t667.size)))) (fun _ h_ => h_.1))) hb); replace BK665 := Aside0.mk (blk_below (g := gb665) (o := .cells #[.int .u32 a0_0, .int .u32 a0_1, .int .i64 a0_2, .int .i64 a0_3] 41 (0, 0)) q671 hb); replace BK666 := Aside0.mk (blk_below (g := gb666) (o := .cells #[.int .i64 a1_0, .int .i64 4789, .bool a1_2, .string x667003_3] 31 (0, 0)) quiq hb); replace BK670 := Aside0.mk (blk_below (g := gb670) (o := .cells #[.int .u64 2, .int .u64 6, .bool false, .int .i64 0, .bool false, .int .i64 0, .int .i64 2048, .string (((t667.extract 0 (x13_27 : Int).toNat) ++ (strOfNums y684)) ++ (t667.extract ((ji52) : Int).toNat t667.size))] 29 (0, 0)) (by (with_reducible repeat (first | refine blk_drewN ?_ _ | refine blk_drew ?_ | refine blk_alloc ?_ _)); refine blk_put (cs := #[.int .u64 2, .int .u64 6, .bool false, .int .i64 0, .bool false, .int .i64 0, .int .i64 2048, .string (t667.extract 0 (x9_22 : Int).toNat)]) ?_ 7 _ rfl; (with_reducible repeat (first | refine blk_drewN ?_ _ | refine blk_drew ?_ | refine blk_alloc ?_ _)); exact BK670.out) hb); replace BK682 := Aside0.mk (blk_below (g := gb682) (o := .cells #[.int .i64 t671, .int .u32 t672, .int .i64 t673, .int .i64 t674, .bool t675, .string t676] 33 (0, 0)) (by (with_reducible repeat (first | refine blk_drewN ?_ _ | refine blk_drew ?_ | refine blk_alloc ?_ _ | refine blk_far ?_ NB682_670.out _)); exact BK682.out) hb); replace BK683 := Aside0.mk (blk_below (g := gb683) (o := .cells #[.int .i64 t677, .int .u64 t678, .int .u32 t679, .int .u64 t680, .int .u32 t681] 35 (0, 0)) (by (with_reducible repeat (first | refine blk_drewN ?_ _ | refine blk_drew ?_ | refine blk_alloc ?_ _ | refine blk_far ?_ NB683_670.out _)); exact BK683.out) hb); replace HB := Aside0.mk (below_step q03v hb); obtain ⟨hcy1_665_0, hcy1_665_1, hcy1_665_2, hcy1_665_3⟩ := cells4 BK665.out; (try clear hb); (try clear hb2); (try clear hk); (try clear hi)) | ((with_reducible refine gate_dst (N := 14) rfl ?_); (try (refine gate_guard qgcr ?_; dsimp only)); refine box_event qgcr (N := 14) qgcr (cs := #[.int .i64 0, .int .u32 0, .int .i64 0, .int .i64 0, .bool false, .string (⟨#[]⟩ : ByteArray)]) (t := 33) qlto ?_; intro gb698 hg w75 hbox hb; have BK698 := Aside0.mk (hbox); have GE698 := Aside0.mk ((by rw [hg]; exact (below_size q03v) : w.heap.size ≤ gb698)); have NB665_698 := Aside0.mk ((q22x : gb665 ≠ gb698)); have NB698_665 := Aside0.mk ((q4ff : gb698 ≠ gb665)); have NB666_698 := Aside0.mk ((q010 : gb666 ≠ gb698)); have NB698_666 := Aside0.mk ((qlki : gb698 ≠ gb666)); have NB670_698 := Aside0.mk ((q6fr : gb670 ≠ gb698)); have NB698_670 := Aside0.mk ((qe32 : gb698 ≠ gb670)); have NB682_698 := Aside0.mk ((by rw [hg]; exact Nat.ne_of_lt (blk_lt (g := gb682) q3n9) : gb682 ≠ gb698)); have NB698_682 := Aside0.mk ((by rw [hg]; exact Nat.ne_of_gt (blk_lt (g := gb682) q3n9) : gb698 ≠ gb682)); have NB683_698 := Aside0.mk ((by rw [hg]; exact Nat.ne_of_lt (blk_lt (g := gb683) q60y) : gb683 ≠ gb698)); have NB698_683 := Aside0.mk ((by rw [hg]; exact Nat.ne_of_gt (blk_lt (g := gb683) q60y) : gb698 ≠ gb683)); replace HO686 := Aside0.mk (Kd.R_below (by (with_reducible repeat (first | apply Kd.R_alloc | apply Kd.R_drewN | apply Kd.R_drew)); exact HO686.out) hb); replace BK665 := Aside0.mk (blk_below (g := gb665) qd5d hb); replace BK666 := Aside0.mk (blk_below (g := gb666) q0xo hb); replace BK670 := Aside0.mk (blk_below (g := gb670) q95p hb); replace BK682 := Aside0.mk (blk_below (g := gb682) q3n9 hb); replace BK683 := Aside0.mk (blk_below (g := gb683) q60y hb); replace HB := Aside0.mk (below_step q03v hb); obtain ⟨hcy2_665_0, hcy2_665_1, hcy2_665_2, hcy2_665_3⟩ := cells4 BK665.out; clear hb hbox hg) | ((with_reducible refine gate_dst (N := 15) rfl ?_); (try (refine gate_guard qgcr ?_; dsimp only)); refine box_event qgcr (N := 15) qgcr (cs := #[.int .i64 0, .int .u64 0, .int .u32 0, .int .u64 0, .int .u32 0]) (t := 35) qlto ?_; intro gb699 hg w76 hbox hb; have BK699 := Aside0.mk (hbox); have GE699 := Aside0.mk ((by rw [hg]; exact (below_size q55f) : w.heap.size ≤ gb699)); have NB665_699 := Aside0.mk ((q22x : gb665 ≠ gb699)); have NB699_665 := Aside0.mk ((q4ff : gb699 ≠ gb665)); have NB666_699 := Aside0.mk ((q010 : gb666 ≠ gb699)); have NB699_666 := Aside0.mk ((qlki : gb699 ≠ gb666)); have NB670_699 := Aside0.mk ((q6fr : gb670 ≠ gb699)); have NB699_670 := Aside0.mk ((qe32 : gb699 ≠ gb670)); have NB682_699 := Aside0.mk ((by rw [hg]; exact Nat.ne_of_lt (blk_lt (g := gb682) q3n9) : gb682 ≠ gb699)); have NB699_682 := Aside0.mk ((by rw [hg]; exact Nat.ne_of_gt (blk_lt (g := gb682) q3n9) : gb699 ≠ gb682)); have NB683_699 := Aside0.mk ((by rw [hg]; exact Nat.ne_of_lt (blk_lt (g := gb683) q60y) : gb683 ≠ gb699)); have NB699_683 := Aside0.mk ((by rw [hg]; exact Nat.ne_of_gt (blk_lt (g := gb683) q60y) : gb699 ≠ gb683)); have NB698_699 := Aside0.mk ((by rw [hg]; exact Nat.ne_of_lt (blk_lt (g := gb698) qshl) : gb698 ≠ gb699)); have NB699_698 := Aside0.mk ((by rw [hg]; exact Nat.ne_of_gt (blk_lt (g := gb698) qshl) : gb699 ≠ gb698)); replace HO686 := Aside0.mk (Kd.R_below (by (with_reducible repeat (first | apply Kd.R_alloc | apply Kd.R_drewN | apply Kd.R_drew)); exact HO686.out) hb); replace BK665 := Aside0.mk (blk_below (g := gb665) qd5d hb); replace BK666 := Aside0.mk (blk_below (g := gb666) q0xo hb); replace BK670 := Aside0.mk (blk_below (g := gb670) q95p hb); replace BK682 := Aside0.mk (blk_below (g := gb682) q3n9 hb); replace BK683 := Aside0.mk (blk_below (g := gb683) q60y hb); replace BK698 := Aside0.mk (blk_below (g := gb698) qshl hb); replace HB := Aside0.mk (below_step q55f hb); obtain ⟨hcy3_665_0, hcy3_665_1, hcy3_665_2, hcy3_665_3⟩ := cells4 BK665.out; clear hb hbox hg; have hnb77 := NB698_665.out; have hnc77 := NB665_698.out; have hnb78 := NB698_666.out; have hnc78 := NB666_698.out; have hnb79 := NB698_670.out; have hnc79 := NB670_698.out; have hnb80 := NB698_682.out; have hnc80 := NB682_698.out; have hnb81 := NB698_683.out; have hnc81 := NB683_698.out; have hnb82 := NB698_699.out; have hnc82 := NB699_698.out; obtain ⟨hcz83_0, hcz83_1, hcz83_2, hcz83_3, hcz83_4, hcz83_5⟩ := cells6 BK698.out; obtain ⟨hfz83_0, hfz83_1, hfz83_2, hfz83_3, hfz83_4, hfz83_5⟩ := frozen6 BK698.out; have hnb84 := NB699_665.out; have hnc84 := NB665_699.out; have hnb85 := NB699_666.out; have hnc85 := NB666_699.out; have hnb86 := NB699_670.out; have hnc86 := NB670_699.out; have hnb87 := NB699_682.out; have hnc87 := NB682_699.out; have hnb88 := NB699_683.out; have hnc88 := NB683_699.out; obtain ⟨hcz89_0, hcz89_1, hcz89_2, hcz89_3, hcz89_4⟩ := cells5 BK699.out; obtain ⟨hfz89_0, hfz89_1, hfz89_2, hfz89_3, hfz89_4⟩ := frozen5 BK699.out; have hnb90 := NB682_666.out; have hnc90 := NB666_682.out; have hnb91 := NB682_683.out; have hnc91 := NB683_682.out; obtain ⟨hcz92_0, hcz92_1, hcz92_2, hcz92_3, hcz92_4, hcz92_5⟩ := cells6 BK682.out; obtain ⟨hfz92_0, hfz92_1, hfz92_2, hfz92_3, hfz92_4, hfz92_5⟩ := frozen6 BK682.out) | (go_at_call 10; (with_reducible refine (gangwaylaw20_fixed.calls kj27  t700 _ ?sideL A59.out).mono ?_); (case sideL => exact laid_below HLD.out qin7); rintro e w93 ⟨rfl, hb⟩; replace HO686 := Aside0.mk (Kd.R_below (by (with_reducible repeat (first | apply Kd.R_alloc | apply Kd.R_drewN | apply Kd.R_drew)); exact (Kd.R_mono (Kd.R_mono (Kd.R_far (p := ⟨gb699, 4, none⟩) (Kd.R_far (p := ⟨gb699, 3, none⟩) (Kd.R_far (p := ⟨gb699, 2, none⟩) (Kd.R_far (p := ⟨gb699, 1, none⟩) (Kd.R_far (p := ⟨gb699, 0, none⟩) (Kd.R_far (p := ⟨gb698, 5, none⟩) (Kd.R_far (p := ⟨gb698, 4, none⟩) (Kd.R_far (p := ⟨gb698, 3, none⟩) (Kd.R_far (p := ⟨gb698, 2, none⟩) (Kd.R_far (p := ⟨gb698, 1, none⟩) (Kd.R_far (p := ⟨gb698, 0, none⟩) (Kd.R_types (Kd.R_types HO686.out BK698.out qomw) BK699.out qomw) (fun _ hk => hk.1.2) (.int .i64 t687)) (fun _ hk => hk.1.2) (.int .u32 t688)) (fun _ hk => hk.1.2) (.int .i64 t689)) (fun _ hk => hk.1.2) (.int .i64 t690)) (fun _ hk => hk.1.2) (.bool t691)) (fun _ hk => hk.1.2) (.string t692)) (fun _ hk => by first | exact hk.2 | exact trivial | exact hk) (.int .i64 t693)) (fun _ hk => by first | exact hk.2 | exact trivial | exact hk) (.int .u64 t694)) (fun _ hk => by first | exact hk.2 | exact trivial | exact hk) (.int .u32 t695)) (fun _ hk => by first | exact hk.2 | exact trivial | exact hk) (.int .u64 t696)) (fun _ hk => by first | exact hk.2 | exact trivial | exact hk) (.int .u32 t697)) (fun _ h_ => h_.1)) (fun _ h_ => h_.1))) hb); replace BK665 := Aside0.mk (blk_below (g := gb665) (o := .cells #[.int .u32 a0_0, .int .u32 a0_1, .int .i64 a0_2, .int .i64 a0_3] 41 (0, 0)) (by (with_reducible repeat (first | refine blk_drewN ?_ _ | refine blk_drew ?_ | refine blk_alloc ?_ _ | refine blk_far ?_ NB665_699.out _ | refine blk_far ?_ NB665_698.out _)); exact BK665.out) hb); replace BK666 := Aside0.mk (blk_below (g := gb666) (o := .cells #[.int .i64 a1_0, .int .i64 4789, .bool a1_2, .string x667003_3] 31 (0, 0)) (by (with_reducible repeat (first | refine blk_drewN ?_ _ | refine blk_drew ?_ | refine blk_alloc ?_ _ | refine blk_far ?_ NB666_699.out _ | refine blk_far ?_ NB666_698.out _)); exact BK666.out) hb); replace BK670 := Aside0.mk (blk_below (g := gb670) (o := .cells #[.int .u64 2, .int .u64 6, .bool false, .int .i64 0, .bool false, .int .i64 0, .int .i64 2048, .string (((t667.extract 0 (x13_27 : Int).toNat) ++ (strOfNums y684)) ++ (t667.extract ((ji52) : Int).toNat t667.size))] 29 (0, 0)) (by (with_reducible repeat (first | refine blk_drewN ?_ _ | refine blk_drew ?_ | refine blk_alloc ?_ _ | refine blk_far ?_ NB670_699.out _ | refine blk_far ?_ NB670_698.out _)); exact BK670.out) hb); replace BK682 := Aside0.mk (blk_below (g := gb682) (o := .cells #[.int .i64 t671, .int .u32 t672, .int .i64 t673, .int .i64 t674, .bool t675, .string t676] 33 (0, 0)) (by (with_reducible repeat (first | refine blk_drewN ?_ _ | refine blk_drew ?_ | refine blk_alloc ?_ _ | refine blk_far ?_ NB682_699.out _ | refine blk_far ?_ NB682_698.out _)); exact BK682.out) hb); replace BK683 := Aside0.mk (blk_below (g := gb683) (o := .cells #[.int .i64 t677, .int .u64 t678, .int .u32 t679, .int .u64 t680, .int .u32 t681] 35 (0, 0)) (by (with_reducible repeat (first | refine blk_drewN ?_ _ | refine blk_drew ?_ | refine blk_alloc ?_ _ | refine blk_far ?_ NB683_699.out _ | refine blk_far ?_ NB683_698.out _)); exact BK683.out) hb); replace BK698 := Aside0.mk (blk_below (g := gb698) (o := .cells #[.int .i64 t687, .int .u32 t688, .int .i64 t689, .int .i64 t690, .bool t691, .string t692] 33 (0, 0)) (by (with_reducible repeat (first | refine blk_drewN ?_ _ | refine blk_drew ?_ | refine blk_alloc ?_ _ | refine blk_far ?_ NB698_699.out _)); exact (put6_0_6 qshl)) hb); replace BK699 := Aside0.mk (blk_below (g := gb699) (o := .cells #[.int .i64 t693, .int .u64 t694, .int .u32 t695, .int .u64 t696, .int .u32 t697] 35 (0, 0)) (by (with_reducible repeat (first | refine blk_drewN ?_ _ | refine blk_drew ?_ | refine blk_alloc ?_ _)); exact put5_0_5 (by (with_reducible repeat (first | refine blk_drewN ?_ _ | refine blk_drew ?_ | refine blk_alloc ?_ _ | refine blk_far ?_ NB699_698.out _)); exact BK699.out)) hb); replace HB := Aside0.mk (below_step qin7 hb); obtain ⟨hcy4_665_0, hcy4_665_1, hcy4_665_2, hcy4_665_3⟩ := cells4 BK665.out; (try clear hb); (try clear hb2); (try clear hk); (try clear hi)))
                     go_ret
                     exact ⟨(by first | rfl | (simp [errW_none, errW_some] <;> rfl) | (simp only [← hji52]; first | rfl | (simp [errW_none, errW_some] <;> rfl)) | (simp [*, errW_none, errW_some] <;> rfl) | (simp [*, IntKind.wrap_u32]; done) | (simp_all [IntKind.wrap_u32]; done)), qin7⟩
                    ·rw [if_neg c58] at H
                     exact absurd H q6hr
                   ·rw [if_neg c57] at H
                    exact absurd H q6hr
                  ·rw [if_neg c55] at H
                   exact absurd H q6hr
                 ·rw [if_neg c54] at H
                  exact absurd H q6hr
                ·rw [if_neg c53] at H
                 exact absurd H q6hr
               ·rw [if_neg c51] at H
                exact absurd H q6hr
              ·rw [if_neg c49] at H
               exact absurd H q6hr
             ·rw [if_neg c48] at H
              exact absurd H q6hr
            ·rw [if_neg c47] at H
             exact absurd H q6hr
         ·rw [if_neg c26] at H
          exact absurd H q6hr
        ·rw [if_neg c25] at H
         exact absurd H q6hr
end Go.Proofs.YtbkgaplldfilnaaDoor.P
