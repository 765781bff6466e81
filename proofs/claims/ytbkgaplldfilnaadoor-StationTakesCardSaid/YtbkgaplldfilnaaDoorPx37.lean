-- slim
-- Written by wip/hprint.py (this session's program) through the kit's print program; hand contracts are marked 'by hand'.
import Derived.Test.YtbkgaplldfilnaaDoorAbb
import Derived.Test.YtbkgaplldfilnaaDoorRow
import Derived.Test.YtbkgaplldfilnaaDoorPx0
import Derived.Test.YtbkgaplldfilnaaDoorPx25
import Derived.Test.YtbkgaplldfilnaaDoorPx21
import Derived.Test.YtbkgaplldfilnaaDoorPx29
import Derived.Test.YtbkgaplldfilnaaDoorPx36
namespace Go.Proofs.YtbkgaplldfilnaaDoor.P
open Go.RowKit Go.Proofs.YtbkgaplldfilnaaDoorW.PrintWords Go.Proofs.YtbkgaplldfilnaaDoorW.PrintLast Go.Proofs.YtbkgaplldfilnaaDoorW.PrintMore
attribute [local go_sem] max2_int min2_int max_two min_two max_three min_three max_four min_four   -- for this text's walks alone
set_option linter.unusedVariables false
set_option linter.unusedSimpArgs false

theorem q65m {p : Prop} (h : p := by (with_reducible repeat (first | refine blk_drewN ?_ _ | refine blk_drew ?_ | refine blk_alloc ?_ _)); exact BK550.out) : p := h
theorem qtgj {p : Prop} (h : p := by (with_reducible repeat (first | refine blk_drewN ?_ _ | refine blk_drew ?_ | refine blk_alloc ?_ _)); exact BK551.out) : p := h
theorem qhkm {p : Prop} (h : p := by (with_reducible repeat (first | refine blk_drewN ?_ _ | refine blk_drew ?_ | refine blk_alloc ?_ _)); exact BK563.out) : p := h
theorem q820 {p : Prop} (h : p := by (with_reducible repeat (first | refine blk_drewN ?_ _ | refine blk_drew ?_ | refine blk_alloc ?_ _)); exact BK564.out) : p := h
theorem qorq {p : Prop} (h : p := by (with_reducible repeat (first | refine blk_drewN ?_ _ | refine blk_drew ?_ | refine blk_alloc ?_ _)); exact BK576.out) : p := h
theorem qjr8 {p : Prop} (h : p := by repeat (first | (with_reducible first | exact HB.out | apply below_alloc | apply pw_below_drewN | apply below_drew1 | refine below_set ?_ GE550.out) | exact HB.out)) : p := h
theorem q6so {p : Prop} (h : p := by repeat (first | (with_reducible first | exact HB.out | apply below_alloc | apply pw_below_drewN | apply below_drew1 | refine below_set ?_ GE550.out | refine below_set ?_ GE551.out) | exact HB.out)) : p := h
theorem qdb9 {p : Prop} (h : p := by repeat (first | (with_reducible first | exact HB.out | apply below_alloc | apply pw_below_drewN | apply below_drew1 | refine below_set ?_ GE550.out | refine below_set ?_ GE551.out | refine below_set ?_ GE563.out) | exact HB.out)) : p := h
theorem q0sc {p : Prop} (h : p := by repeat (first | (with_reducible first | exact HB.out | apply below_alloc | apply pw_below_drewN | apply below_drew1 | refine below_set ?_ GE550.out | refine below_set ?_ GE551.out | refine below_set ?_ GE563.out | refine below_set ?_ GE564.out) | exact HB.out)) : p := h
theorem qjxe {p : Prop} (h : p := by with_reducible repeat (first | (apply blk_far; case hp => assumption) | apply blk_set | refine blk_drewN ?_ _ | refine blk_drew ?_ | refine blk_alloc ?_ _ | exact BK550.out | exact BK551.out | exact BK563.out | exact BK564.out | exact BK576.out | exact BK577.out)) : p := h
theorem qj1o {p : Prop} (h : p := by repeat (first | (with_reducible first | exact HB.out | apply below_alloc | apply pw_below_drewN | apply below_drew1 | refine below_set ?_ GE550.out | refine below_set ?_ GE551.out | refine below_set ?_ GE563.out | refine below_set ?_ GE564.out | refine below_set ?_ GE576.out) | exact HB.out)) : p := h
theorem q6i5 {p : Prop} (h : p := by repeat (first | (with_reducible first | exact HB.out | apply below_alloc | apply pw_below_drewN | apply below_drew1 | refine below_set ?_ GE550.out | refine below_set ?_ GE551.out | refine below_set ?_ GE563.out | refine below_set ?_ GE564.out | refine below_set ?_ GE576.out | refine below_set ?_ GE577.out) | exact HB.out)) : p := h
theorem qtiz {p : Prop} (h : p := by rw [hg]; exact Nat.ne_of_gt (blk_lt (g := gb550) q65m)) : p := h
theorem qnhp {p : Prop} (h : p := by rw [hg]; exact Nat.ne_of_lt (blk_lt (g := gb550) q65m)) : p := h
theorem qnvs {p : Prop} (h : p := by rw [hg]; exact Nat.ne_of_gt (blk_lt (g := gb551) qtgj)) : p := h
theorem qr9i {p : Prop} (h : p := by rw [hg]; exact Nat.ne_of_lt (blk_lt (g := gb551) qtgj)) : p := h
attribute [local go_sem high] eqA33 eqA35
/-! ### gangwaylaw20_StationTakes: function 3 -/
def gangwaylaw20_StationTakes.j0 : Nat → Int → Int → Int → Int → Bool → Int → Bool → Int → Int → ByteArray → Option (Bool)
 | 0, _, _, _, _, _, _, _, _, _, _ => none
 | k + 1, x551000, x551001, x552000, x552001, x552002, x552003, x552004, x552005, x552006, x552007 => (station_Take.f k x551000 x551001 x552000 x552001 x552002 x552003 x552004 x552005 x552006 x552007).bind fun bt552 => ((gangwayref20_Take.f k x551000 x551001 x552000 x552001 x552002 x552003 x552004 x552005 x552006 x552007).bind fun bt565 => ((gangwaylaw20_fixed.f k).bind fun t578 => (if t578 = true then (if (bt552.1 == bt565.1 && (bt552.2.1 == bt565.2.1 && ((bt552.2.2.1 == bt565.2.2.1 && (bt552.2.2.2.1 == bt565.2.2.2.1 && (bt552.2.2.2.2.1 == bt565.2.2.2.2.1 && (bt552.2.2.2.2.2.1.toList == bt565.2.2.2.2.2.1.toList))))))) = true then (some (bt552.2.2.2.2.2.2.1 == bt565.2.2.2.2.2.2.1 && (bt552.2.2.2.2.2.2.2.1 == bt565.2.2.2.2.2.2.2.1 && (bt552.2.2.2.2.2.2.2.2.1 == bt565.2.2.2.2.2.2.2.2.1 && (bt552.2.2.2.2.2.2.2.2.2.1 == bt565.2.2.2.2.2.2.2.2.2.1 && (bt552.2.2.2.2.2.2.2.2.2.2 == bt565.2.2.2.2.2.2.2.2.2.2)))))) else (none)) else (none))))
def gangwaylaw20_StationTakes.f (k : Nat) (a0_0 : Int) (a0_1 : Int) (a1_0 : Int) (a1_1 : Int) (a1_2 : Bool) (a1_3 : Int) (a1_4 : Bool) (a1_5 : Int) (a1_6 : Int) (a1_7 : ByteArray) : Option (Bool) := if 0 ≤ (mn (a1_7.size : Int) 1700) then (if (mn (a1_7.size : Int) 1700) ≤ (a1_7.size : Int) then (gangwaylaw20_StationTakes.j0 k a0_0 a0_1 a1_0 a1_1 a1_2 a1_3 a1_4 a1_5 a1_6 (a1_7.extract 0 ((mn (a1_7.size : Int) 1700) : Int).toNat)) else (none)) else (none)
theorem gangwaylaw20_StationTakes.mono_l : ∀ k, (∀ y0 y1 y2 y3 y4 y5 y6 y7 y8 y9, LeO (gangwaylaw20_StationTakes.j0 k y0 y1 y2 y3 y4 y5 y6 y7 y8 y9) (gangwaylaw20_StationTakes.j0 (k + 1) y0 y1 y2 y3 y4 y5 y6 y7 y8 y9))
 | 0 => fun _ _ _ _ _ _ _ _ _ _ r h => by simp [gangwaylaw20_StationTakes.j0] at h
 | k + 1 => by
  have ih0 := gangwaylaw20_StationTakes.mono_l k
  ·intro y0 y1 y2 y3 y4 y5 y6 y7 y8 y9
   unfold gangwaylaw20_StationTakes.j0
   repeat' first
   | (with_reducible exact ih0 _ _ _ _ _ _ _ _ _ _)
   | (with_reducible exact gangwaylaw20_fixed.mono _)
   | (with_reducible exact gangwayref20_Take.mono _ _ _ _ _ _ _ _ _ _ _)
   | (with_reducible exact station_Take.mono _ _ _ _ _ _ _ _ _ _ _)
   | (with_reducible exact LeO.refl _)
   | (with_reducible exact LeO.none _)
   | (with_reducible refine LeO.ite ?_ ?_)
   | (with_reducible refine LeO.bind ?_ (fun _ => ?_))
   | exact ih0 _ _ _ _ _ _ _ _ _ _
   | exact gangwaylaw20_fixed.mono _
   | exact gangwayref20_Take.mono _ _ _ _ _ _ _ _ _ _ _
   | exact station_Take.mono _ _ _ _ _ _ _ _ _ _ _
   | exact LeO.none _
   | refine LeO.ite ?_ ?_
   | refine LeO.bind ?_ (fun _ => ?_)
set_option maxHeartbeats 8000000 in
set_option maxRecDepth 100000 in
theorem gangwaylaw20_StationTakes.calls (k : Nat) (a0_0 : Int) (a0_1 : Int) (a1_0 : Int) (a1_1 : Int) (a1_2 : Bool) (a1_3 : Int) (a1_4 : Bool) (a1_5 : Int) (a1_6 : Int) (a1_7 : ByteArray) (r : Bool) (w : World) (hL : Laid w) (h : gangwaylaw20_StationTakes.f k a0_0 a0_1 a1_0 a1_1 a1_2 a1_3 a1_4 a1_5 a1_6 a1_7 = some r) :
  Calls Tryd.prog 3 #[.agg #[.int .u64 a0_0, .int .u32 a0_1], .agg #[.int .u64 a1_0, .int .u64 a1_1, .bool a1_2, .int .i64 a1_3, .bool a1_4, .int .i64 a1_5, .int .i64 a1_6, .string a1_7]] w fun e w' => e = .returned (.bool r) ∧ Below w.heap.size w w' := by
 have HLD := Aside0.mk hL
 clear hL
 have hu25 := Tryd.underlying25
 have hu29 := Tryd.underlying29
 have hu33 := Tryd.underlying33
 have hu35 := Tryd.underlying35
 have HB := Aside0.mk (Below.refl w.heap.size w)
 have H := h
 unfold gangwaylaw20_StationTakes.f at H
 clear h
 have HC3 := Aside0.mk H
 clear H
 go_enter Tryd.func3, Tryd.ntmps3
 go_upto_region 1 with (first | ((with_reducible refine gate_st (ty := 29) rfl ?_); refine storeC8 rfl rfl rfl rfl rfl qjxe qr2c qg3m rfl ?_) | ((with_reducible refine gate_ld (ty := 29) rfl ?_); (try (with_reducible refine gate_gd rfl ?_; refine gate_guard q8ju ?_; dsimp only)); refine load_st rfl rfl rfl qjxe qr2c Tryd.underlying29 rfl qg3m ?_; (try simp only [Act.put, List.setIfInBounds_toArray, List.set_cons_zero, List.set_cons_succ])) | ((with_reducible refine gate_st (ty := 33) rfl ?_); refine storeC6 rfl rfl rfl rfl rfl qjxe qr2c qg3m rfl ?_) | ((with_reducible refine gate_ld (ty := 33) rfl ?_); (try (with_reducible refine gate_gd rfl ?_; refine gate_guard q8ju ?_; dsimp only)); refine load_st rfl rfl rfl qjxe qr2c Tryd.underlying33 rfl qg3m ?_; (try simp only [Act.put, List.setIfInBounds_toArray, List.set_cons_zero, List.set_cons_succ])) | ((with_reducible refine gate_st (ty := 35) rfl ?_); refine storeC5 rfl rfl rfl rfl rfl qjxe qr2c qg3m rfl ?_) | ((with_reducible refine gate_ld (ty := 35) rfl ?_); (try (with_reducible refine gate_gd rfl ?_; refine gate_guard q8ju ?_; dsimp only)); refine load_st rfl rfl rfl qjxe qr2c Tryd.underlying35 rfl qg3m ?_; (try simp only [Act.put, List.setIfInBounds_toArray, List.set_cons_zero, List.set_cons_succ])) | ((with_reducible refine gate_dst (N := 2) rfl ?_); refine box_event qgcr (N := 2) qgcr (cs := #[.int .u64 a0_0, .int .u32 a0_1]) (t := 25) qlto ?_; intro gb550 hg w4 hbox hb; have BK550 := Aside0.mk (hbox); have GE550 := Aside0.mk ((qisx : w.heap.size ≤ gb550)); replace HB := Aside0.mk (below_step qpag hb); clear hb hbox hg) | ((with_reducible refine gate_dst (N := 3) rfl ?_); refine box_event qgcr (N := 3) qgcr (cs := #[.int .u64 a1_0, .int .u64 a1_1, .bool a1_2, .int .i64 a1_3, .bool a1_4, .int .i64 a1_5, .int .i64 a1_6, .string a1_7]) (t := 29) qlto ?_; intro gb551 hg w5 hbox hb; have BK551 := Aside0.mk (hbox); have GE551 := Aside0.mk ((by rw [hg]; exact (below_size qjr8) : w.heap.size ≤ gb551)); have NB550_551 := Aside0.mk ((qnhp : gb550 ≠ gb551)); have NB551_550 := Aside0.mk ((qtiz : gb551 ≠ gb550)); replace BK550 := Aside0.mk (blk_below (g := gb550) q65m hb); replace HB := Aside0.mk (below_step qjr8 hb); clear hb hbox hg))
 (try simp only [Act.put, List.setIfInBounds_toArray, List.set_cons_zero, List.set_cons_succ])
 go_cut [] (fun wc => ∃ (kq : Nat) (x552007_2 : ByteArray), Aside0 (gangwaylaw20_StationTakes.j0 kq a0_0 a0_1 a1_0 a1_1 a1_2 a1_3 a1_4 a1_5 a1_6 x552007_2 = some r) ∧ Aside0 (kq ≤ k) ∧ Aside0 (wc.heap[gb550]? = some (.cells #[.int .u64 a0_0, .int .u32 a0_1] 25 (0, 0))) ∧ Aside0 (wc.heap[gb551]? = some (.cells #[.int .u64 a1_0, .int .u64 a1_1, .bool a1_2, .int .i64 a1_3, .bool a1_4, .int .i64 a1_5, .int .i64 a1_6, .string x552007_2] 29 (0, 0))) ∧ Aside0 (Below w.heap.size w wc))
 case first =>
  have H := HC3.out
  clear HC3
  obtain ⟨ji6, hji6⟩ : ∃ j_ : Int, (mn (a1_7.size : Int) 1700) = j_ := ⟨_, rfl⟩
  replace H : (if 0 ≤ (ji6) then (if (ji6) ≤ (a1_7.size : Int) then (gangwaylaw20_StationTakes.j0 k a0_0 a0_1 a1_0 a1_1 a1_2 a1_3 a1_4 a1_5 a1_6 (a1_7.extract 0 ((ji6) : Int).toNat)) else (none)) else (none)) = some r := by first | (rw [hji6] at H; exact H) | (simp only [hji6] at H ⊢; exact H)
  (try (have hji6h : ji6 ≤ 1700 := by (rw [← hji6]; unfold mn; (repeat' split) <;> omega)))
  (try (have hji6g : ji6 ≤ 64 := by omega))
  (try (have hji6l : 0 ≤ ji6 := by (rw [← hji6]; unfold mn; (repeat' split) <;> omega)))
  (try (have hji6m : 0 ≤ ji6 := by omega))
  have hji6_ : (if 1700 < (a1_7.size : Int) then 1700 else (a1_7.size : Int)) = ji6 := hji6
  by_cases c7 : 0 ≤ (ji6)
  ·rw [if_pos c7] at H
   have c7b0 := eq_true c7
   have c7b1 : decide (0 ≤ (ji6)) = true := decide_eq_true c7
   clear c7
   by_cases c8 : (ji6) ≤ (a1_7.size : Int)
   ·rw [if_pos c8] at H
    have c8b0 := eq_true c8
    have c8b1 : decide ((ji6) ≤ (a1_7.size : Int)) = true := decide_eq_true c8
    clear c8
    have H' := Aside0.mk H
    clear H
    have hnb9 := NB551_550.out
    have hnc9 := NB550_551.out
    obtain ⟨hcz10_0, hcz10_1, hcz10_2, hcz10_3, hcz10_4, hcz10_5, hcz10_6, hcz10_7⟩ := cells8 BK551.out
    obtain ⟨hfz10_0, hfz10_1, hfz10_2, hfz10_3, hfz10_4, hfz10_5, hfz10_6, hfz10_7⟩ := frozen8 BK551.out
    go_wp2_with (first | ((with_reducible refine gate_st (ty := 29) rfl ?_); refine storeC8 rfl rfl rfl rfl rfl qjxe qr2c qg3m rfl ?_) | ((with_reducible refine gate_ld (ty := 29) rfl ?_); (try (with_reducible refine gate_gd rfl ?_; refine gate_guard q8ju ?_; dsimp only)); refine load_st rfl rfl rfl qjxe qr2c Tryd.underlying29 rfl qg3m ?_; (try simp only [Act.put, List.setIfInBounds_toArray, List.set_cons_zero, List.set_cons_succ])) | ((with_reducible refine gate_st (ty := 33) rfl ?_); refine storeC6 rfl rfl rfl rfl rfl qjxe qr2c qg3m rfl ?_) | ((with_reducible refine gate_ld (ty := 33) rfl ?_); (try (with_reducible refine gate_gd rfl ?_; refine gate_guard q8ju ?_; dsimp only)); refine load_st rfl rfl rfl qjxe qr2c Tryd.underlying33 rfl qg3m ?_; (try simp only [Act.put, List.setIfInBounds_toArray, List.set_cons_zero, List.set_cons_succ])) | ((with_reducible refine gate_st (ty := 35) rfl ?_); refine storeC5 rfl rfl rfl rfl rfl qjxe qr2c qg3m rfl ?_) | ((with_reducible refine gate_ld (ty := 35) rfl ?_); (try (with_reducible refine gate_gd rfl ?_; refine gate_guard q8ju ?_; dsimp only)); refine load_st rfl rfl rfl qjxe qr2c Tryd.underlying35 rfl qg3m ?_; (try simp only [Act.put, List.setIfInBounds_toArray, List.set_cons_zero, List.set_cons_succ])) | go_in)
    go_meet
    case rel => exact ⟨_, (a1_7.extract 0 ((ji6) : Int).toNat), H', ⟨qpfc⟩, ⟨(by (with_reducible repeat (first | refine blk_drewN ?_ _ | refine blk_drew ?_ | refine blk_alloc ?_ _ | refine blk_far ?_ NB550_551.out _)); exact BK550.out)⟩, ⟨(by (with_reducible repeat (first | refine blk_drewN ?_ _ | refine blk_drew ?_ | refine blk_alloc ?_ _)); refine blk_put (cs := #[.int .u64 a1_0, .int .u64 a1_1, .bool a1_2, .int .i64 a1_3, .bool a1_4, .int .i64 a1_5, .int .i64 a1_6, .string a1_7]) ?_ 7 _ rfl; (with_reducible repeat (first | refine blk_drewN ?_ _ | refine blk_drew ?_ | refine blk_alloc ?_ _)); exact BK551.out)⟩, ⟨q6so⟩⟩
   ·rw [if_neg c8] at H
    exact absurd H q6hr
  ·rw [if_neg c7] at H
   exact absurd H q6hr
 case rest =>
  clear HC3
  try clear p2
  try clear c3
  try clear c7
  try clear c7b0
  try clear c7b1
  try clear c8
  try clear c8b0
  try clear c8b1
  try clear c9
  obtain ⟨kq, x552007_2, HA, HJ2, BK550, BK551, HB⟩ := hcut
  cases kq with
  | zero => exact absurd HA.out (by simp [gangwaylaw20_StationTakes.j0])
  | succ kj2 =>
   have H := HA.out
   clear HA
   simp only [gangwaylaw20_StationTakes.j0] at H
   replace H := Option.bind_eq_some_iff.mp H
   obtain ⟨⟨t552, t553, t554, t555, t556, t557, t558, t559, t560, t561, t562⟩, A110, H⟩ := H
   try dsimp only at H
   have A11 := Aside0.mk A110
   clear A110
   replace H := Option.bind_eq_some_iff.mp H
   obtain ⟨⟨t565, t566, t567, t568, t569, t570, t571, t572, t573, t574, t575⟩, A120, H⟩ := H
   try dsimp only at H
   have A12 := Aside0.mk A120
   clear A120
   replace H := Option.bind_eq_some_iff.mp H
   obtain ⟨t578, A130, H⟩ := H
   try dsimp only at H
   have A13 := Aside0.mk A130
   clear A130
   by_cases c14 : t578 = true
   ·subst c14
    rw [if_pos rfl] at H
    by_cases c15 : (t552 == t565 && (t553 == t566 && ((t554 == t567 && (t555 == t568 && (t556 == t569 && (t557.toList == t570.toList))))))) = true
    ·rw [if_pos c15] at H
     have c15b0 : (t552 == t565 && (t553 == t566 && ((t554 == t567 && (t555 == t568 && (t556 == t569 && (t557.toList == t570.toList))))))) = true := c15
     try (have c15p := eq_true (show t552 = t565 ∧ (t553 = t566 ∧ ((t554 = t567 ∧ (t555 = t568 ∧ (t556 = t569 ∧ (t557.toList = t570.toList)))))) from by simpa using c15))
     (try (have c15b1 : decide (t552 = t565 && (t553 == t566 && ((t554 == t567 && (t555 == t568 && (t556 == t569 && (t557.toList == t570.toList))))))) = true := by simpa using c15))
     (try (have c15b2 : (t552 == t565 && (t553 == t566 && ((t554 == t567 && (t555 == t568 && (t556 == t569 && (t557.toList == t570.toList))))))) = true := by simpa using c15))
     clear c15
     obtain rfl := Option.some.inj H
     have hnb16 := NB550_551.out
     have hnc16 := NB551_550.out
     have hcz17_0 : wc.cell? ⟨gb550, 0, none⟩ = some (.int .u64 a0_0) := (blk_cell BK550.out 0).trans rfl
     have hcz17_1 : wc.cell? ⟨gb550, 1, none⟩ = some (.int .u32 a0_1) := (blk_cell BK550.out 1).trans rfl
     have hfz17_0 := blk_frozen BK550.out 0
     have hfz17_1 := blk_frozen BK550.out 1
     obtain ⟨hcz18_0, hcz18_1, hcz18_2, hcz18_3, hcz18_4, hcz18_5, hcz18_6, hcz18_7⟩ := cells8 BK551.out
     obtain ⟨hfz18_0, hfz18_1, hfz18_2, hfz18_3, hfz18_4, hfz18_5, hfz18_6, hfz18_7⟩ := frozen8 BK551.out
     go_wp2_with (first | ((with_reducible refine gate_st (ty := 29) rfl ?_); refine storeC8 rfl rfl rfl rfl rfl qjxe qr2c qg3m rfl ?_) | ((with_reducible refine gate_ld (ty := 29) rfl ?_); (try (with_reducible refine gate_gd rfl ?_; refine gate_guard q8ju ?_; dsimp only)); refine load_st rfl rfl rfl qjxe qr2c Tryd.underlying29 rfl qg3m ?_; (try simp only [Act.put, List.setIfInBounds_toArray, List.set_cons_zero, List.set_cons_succ])) | ((with_reducible refine gate_st (ty := 33) rfl ?_); refine storeC6 rfl rfl rfl rfl rfl qjxe qr2c qg3m rfl ?_) | ((with_reducible refine gate_ld (ty := 33) rfl ?_); (try (with_reducible refine gate_gd rfl ?_; refine gate_guard q8ju ?_; dsimp only)); refine load_st rfl rfl rfl qjxe qr2c Tryd.underlying33 rfl qg3m ?_; (try simp only [Act.put, List.setIfInBounds_toArray, List.set_cons_zero, List.set_cons_succ])) | ((with_reducible refine gate_st (ty := 35) rfl ?_); refine storeC5 rfl rfl rfl rfl rfl qjxe qr2c qg3m rfl ?_) | ((with_reducible refine gate_ld (ty := 35) rfl ?_); (try (with_reducible refine gate_gd rfl ?_; refine gate_guard q8ju ?_; dsimp only)); refine load_st rfl rfl rfl qjxe qr2c Tryd.underlying35 rfl qg3m ?_; (try simp only [Act.put, List.setIfInBounds_toArray, List.set_cons_zero, List.set_cons_succ])) | ((with_reducible refine gate_callee (f := 8) rfl ?_); refine goesL_ (some 23) rfl rfl Tryd.func8 qg3m rfl #[.int .u64 a0_0, .int .u32 a0_1, .agg #[.int .u64 a1_0, .int .u64 a1_1, .bool a1_2, .int .i64 a1_3, .bool a1_4, .int .i64 a1_5, .int .i64 a1_6, .string x552007_2]] rfl qraq ?_; (with_reducible refine (station_Take.calls kj2 a0_0 a0_1 a1_0 a1_1 a1_2 a1_3 a1_4 a1_5 a1_6 x552007_2 t552 t553 t554 t555 t556 t557 t558 t559 t560 t561 t562 _ ?sideL A11.out).mono ?_); (case sideL => exact laid_below HLD.out q6so); rintro e w19 ⟨rfl, hb⟩; refine ⟨_, rfl, ?_⟩; replace BK550 := Aside0.mk (blk_below (g := gb550) q65m hb); replace BK551 := Aside0.mk (blk_below (g := gb551) qtgj hb); replace HB := Aside0.mk (below_step q6so hb); have hcy1_550_0 := (show World.cell? _ ⟨gb550, 0, none⟩ = some (.int .u64 a0_0) from (blk_cell BK550.out 0).trans rfl); have hcy1_550_1 := (show World.cell? _ ⟨gb550, 1, none⟩ = some (.int .u32 a0_1) from (blk_cell BK550.out 1).trans rfl); (try clear hb); (try clear hb2); (try clear hk); (try clear hi)) | ((with_reducible refine gate_dst (N := 5) rfl ?_); refine box_event qgcr (N := 5) qgcr (cs := #[.int .i64 0, .int .u32 0, .int .i64 0, .int .i64 0, .bool false, .string (⟨#[]⟩ : ByteArray)]) (t := 33) qlto ?_; intro gb563 hg w20 hbox hb; have BK563 := Aside0.mk (hbox); have GE563 := Aside0.mk ((by rw [hg]; exact (below_size q6so) : w.heap.size ≤ gb563)); have NB550_563 := Aside0.mk ((qnhp : gb550 ≠ gb563)); have NB563_550 := Aside0.mk ((qtiz : gb563 ≠ gb550)); have NB551_563 := Aside0.mk ((qr9i : gb551 ≠ gb563)); have NB563_551 := Aside0.mk ((qnvs : gb563 ≠ gb551)); replace BK550 := Aside0.mk (blk_below (g := gb550) q65m hb); replace BK551 := Aside0.mk (blk_below (g := gb551) qtgj hb); replace HB := Aside0.mk (below_step q6so hb); have hcy2_550_0 := (show World.cell? _ ⟨gb550, 0, none⟩ = some (.int .u64 a0_0) from (blk_cell BK550.out 0).trans rfl); have hcy2_550_1 := (show World.cell? _ ⟨gb550, 1, none⟩ = some (.int .u32 a0_1) from (blk_cell BK550.out 1).trans rfl); clear hb hbox hg) | ((with_reducible refine gate_dst (N := 6) rfl ?_); refine box_event qgcr (N := 6) qgcr (cs := #[.int .i64 0, .int .u64 0, .int .u32 0, .int .u64 0, .int .u32 0]) (t := 35) qlto ?_; intro gb564 hg w21 hbox hb; have BK564 := Aside0.mk (hbox); have GE564 := Aside0.mk ((by rw [hg]; exact (below_size qdb9) : w.heap.size ≤ gb564)); have NB550_564 := Aside0.mk ((qnhp : gb550 ≠ gb564)); have NB564_550 := Aside0.mk ((qtiz : gb564 ≠ gb550)); have NB551_564 := Aside0.mk ((qr9i : gb551 ≠ gb564)); have NB564_551 := Aside0.mk ((qnvs : gb564 ≠ gb551)); have NB563_564 := Aside0.mk ((by rw [hg]; exact Nat.ne_of_lt (blk_lt (g := gb563) qhkm) : gb563 ≠ gb564)); have NB564_563 := Aside0.mk ((by rw [hg]; exact Nat.ne_of_gt (blk_lt (g := gb563) qhkm) : gb564 ≠ gb563)); replace BK550 := Aside0.mk (blk_below (g := gb550) q65m hb); replace BK551 := Aside0.mk (blk_below (g := gb551) qtgj hb); replace BK563 := Aside0.mk (blk_below (g := gb563) qhkm hb); replace HB := Aside0.mk (below_step qdb9 hb); have hcy3_550_0 := (show World.cell? _ ⟨gb550, 0, none⟩ = some (.int .u64 a0_0) from (blk_cell BK550.out 0).trans rfl); have hcy3_550_1 := (show World.cell? _ ⟨gb550, 1, none⟩ = some (.int .u32 a0_1) from (blk_cell BK550.out 1).trans rfl); clear hb hbox hg; have hnb22 := NB563_550.out; have hnc22 := NB550_563.out; have hnb23 := NB563_551.out; have hnc23 := NB551_563.out; have hnb24 := NB563_564.out; have hnc24 := NB564_563.out; obtain ⟨hcz25_0, hcz25_1, hcz25_2, hcz25_3, hcz25_4, hcz25_5⟩ := cells6 BK563.out; obtain ⟨hfz25_0, hfz25_1, hfz25_2, hfz25_3, hfz25_4, hfz25_5⟩ := frozen6 BK563.out; have hnb26 := NB564_550.out; have hnc26 := NB550_564.out; have hnb27 := NB564_551.out; have hnc27 := NB551_564.out; obtain ⟨hcz28_0, hcz28_1, hcz28_2, hcz28_3, hcz28_4⟩ := cells5 BK564.out; obtain ⟨hfz28_0, hfz28_1, hfz28_2, hfz28_3, hfz28_4⟩ := frozen5 BK564.out; have hcz29_0 : w21.cell? ⟨gb550, 0, none⟩ = some (.int .u64 a0_0) := (blk_cell BK550.out 0).trans rfl; have hcz29_1 : w21.cell? ⟨gb550, 1, none⟩ = some (.int .u32 a0_1) := (blk_cell BK550.out 1).trans rfl; have hfz29_0 := blk_frozen BK550.out 0; have hfz29_1 := blk_frozen BK550.out 1; obtain ⟨hcz30_0, hcz30_1, hcz30_2, hcz30_3, hcz30_4, hcz30_5, hcz30_6, hcz30_7⟩ := cells8 BK551.out; obtain ⟨hfz30_0, hfz30_1, hfz30_2, hfz30_3, hfz30_4, hfz30_5, hfz30_6, hfz30_7⟩ := frozen8 BK551.out) | ((with_reducible refine gate_callee (f := 9) rfl ?_); refine goesL_ (some 32) rfl rfl Tryd.func9 qg3m rfl #[.int .u64 a0_0, .int .u32 a0_1, .agg #[.int .u64 a1_0, .int .u64 a1_1, .bool a1_2, .int .i64 a1_3, .bool a1_4, .int .i64 a1_5, .int .i64 a1_6, .string x552007_2]] rfl qraq ?_; (with_reducible refine (gangwayref20_Take.calls kj2 a0_0 a0_1 a1_0 a1_1 a1_2 a1_3 a1_4 a1_5 a1_6 x552007_2 t565 t566 t567 t568 t569 t570 t571 t572 t573 t574 t575 _ A12.out).mono ?_); rintro e w31 ⟨rfl, hb⟩; refine ⟨_, rfl, ?_⟩; replace BK550 := Aside0.mk (blk_below (g := gb550) (o := .cells #[.int .u64 a0_0, .int .u32 a0_1] 25 (0, 0)) (by (with_reducible repeat (first | refine blk_drewN ?_ _ | refine blk_drew ?_ | refine blk_alloc ?_ _ | refine blk_far ?_ NB550_564.out _ | refine blk_far ?_ NB550_563.out _)); exact BK550.out) hb); replace BK551 := Aside0.mk (blk_below (g := gb551) (o := .cells #[.int .u64 a1_0, .int .u64 a1_1, .bool a1_2, .int .i64 a1_3, .bool a1_4, .int .i64 a1_5, .int .i64 a1_6, .string x552007_2] 29 (0, 0)) (by (with_reducible repeat (first | refine blk_drewN ?_ _ | refine blk_drew ?_ | refine blk_alloc ?_ _ | refine blk_far ?_ NB551_564.out _ | refine blk_far ?_ NB551_563.out _)); exact BK551.out) hb); replace BK563 := Aside0.mk (blk_below (g := gb563) (o := .cells #[.int .i64 t552, .int .u32 t553, .int .i64 t554, .int .i64 t555, .bool t556, .string t557] 33 (0, 0)) (by (with_reducible repeat (first | refine blk_drewN ?_ _ | refine blk_drew ?_ | refine blk_alloc ?_ _ | refine blk_far ?_ NB563_564.out _)); exact (put6_0_6 qhkm)) hb); replace BK564 := Aside0.mk (blk_below (g := gb564) (o := .cells #[.int .i64 t558, .int .u64 t559, .int .u32 t560, .int .u64 t561, .int .u32 t562] 35 (0, 0)) (by (with_reducible repeat (first | refine blk_drewN ?_ _ | refine blk_drew ?_ | refine blk_alloc ?_ _)); exact put5_0_5 (by (with_reducible repeat (first | refine blk_drewN ?_ _ | refine blk_drew ?_ | refine blk_alloc ?_ _ | refine blk_far ?_ NB564_563.out _)); exact BK564.out)) hb); replace HB := Aside0.mk (below_step q0sc hb); have hcy4_550_0 := (show World.cell? _ ⟨gb550, 0, none⟩ = some (.int .u64 a0_0) from (blk_cell BK550.out 0).trans rfl); have hcy4_550_1 := (show World.cell? _ ⟨gb550, 1, none⟩ = some (.int .u32 a0_1) from (blk_cell BK550.out 1).trans rfl); (try clear hb); (try clear hb2); (try clear hk); (try clear hi)) | ((with_reducible refine gate_dst (N := 7) rfl ?_); refine box_event qgcr (N := 7) qgcr (cs := #[.int .i64 0, .int .u32 0, .int .i64 0, .int .i64 0, .bool false, .string (⟨#[]⟩ : ByteArray)]) (t := 33) qlto ?_; intro gb576 hg w32 hbox hb; have BK576 := Aside0.mk (hbox); have GE576 := Aside0.mk ((by rw [hg]; exact (below_size q0sc) : w.heap.size ≤ gb576)); have NB550_576 := Aside0.mk ((qnhp : gb550 ≠ gb576)); have NB576_550 := Aside0.mk ((qtiz : gb576 ≠ gb550)); have NB551_576 := Aside0.mk ((qr9i : gb551 ≠ gb576)); have NB576_551 := Aside0.mk ((qnvs : gb576 ≠ gb551)); have NB563_576 := Aside0.mk ((by rw [hg]; exact Nat.ne_of_lt (blk_lt (g := gb563) qhkm) : gb563 ≠ gb576)); have NB576_563 := Aside0.mk ((by rw [hg]; exact Nat.ne_of_gt (blk_lt (g := gb563) qhkm) : gb576 ≠ gb563)); have NB564_576 := Aside0.mk ((by rw [hg]; exact Nat.ne_of_lt (blk_lt (g := gb564) q820) : gb564 ≠ gb576)); have NB576_564 := Aside0.mk ((by rw [hg]; exact Nat.ne_of_gt (blk_lt (g := gb564) q820) : gb576 ≠ gb564)); replace BK550 := Aside0.mk (blk_below (g := gb550) q65m hb); replace BK551 := Aside0.mk (blk_below (g := gb551) qtgj hb); replace BK563 := Aside0.mk (blk_below (g := gb563) qhkm hb); replace BK564 := Aside0.mk (blk_below (g := gb564) q820 hb); replace HB := Aside0.mk (below_step q0sc hb); have hcy5_550_0 := (show World.cell? _ ⟨gb550, 0, none⟩ = some (.int .u64 a0_0) from (blk_cell BK550.out 0).trans rfl); have hcy5_550_1 := (show World.cell? _ ⟨gb550, 1, none⟩ = some (.int .u32 a0_1) from (blk_cell BK550.out 1).trans rfl); clear hb hbox hg) | ((with_reducible refine gate_dst (N := 8) rfl ?_); refine box_event qgcr (N := 8) qgcr (cs := #[.int .i64 0, .int .u64 0, .int .u32 0, .int .u64 0, .int .u32 0]) (t := 35) qlto ?_; intro gb577 hg w33 hbox hb; have BK577 := Aside0.mk (hbox); have GE577 := Aside0.mk ((by rw [hg]; exact (below_size qj1o) : w.heap.size ≤ gb577)); have NB550_577 := Aside0.mk ((qnhp : gb550 ≠ gb577)); have NB577_550 := Aside0.mk ((qtiz : gb577 ≠ gb550)); have NB551_577 := Aside0.mk ((qr9i : gb551 ≠ gb577)); have NB577_551 := Aside0.mk ((qnvs : gb577 ≠ gb551)); have NB563_577 := Aside0.mk ((by rw [hg]; exact Nat.ne_of_lt (blk_lt (g := gb563) qhkm) : gb563 ≠ gb577)); have NB577_563 := Aside0.mk ((by rw [hg]; exact Nat.ne_of_gt (blk_lt (g := gb563) qhkm) : gb577 ≠ gb563)); have NB564_577 := Aside0.mk ((by rw [hg]; exact Nat.ne_of_lt (blk_lt (g := gb564) q820) : gb564 ≠ gb577)); have NB577_564 := Aside0.mk ((by rw [hg]; exact Nat.ne_of_gt (blk_lt (g := gb564) q820) : gb577 ≠ gb564)); have NB576_577 := Aside0.mk ((by rw [hg]; exact Nat.ne_of_lt (blk_lt (g := gb576) qorq) : gb576 ≠ gb577)); have NB577_576 := Aside0.mk ((by rw [hg]; exact Nat.ne_of_gt (blk_lt (g := gb576) qorq) : gb577 ≠ gb576)); replace BK550 := Aside0.mk (blk_below (g := gb550) q65m hb); replace BK551 := Aside0.mk (blk_below (g := gb551) qtgj hb); replace BK563 := Aside0.mk (blk_below (g := gb563) qhkm hb); replace BK564 := Aside0.mk (blk_below (g := gb564) q820 hb); replace BK576 := Aside0.mk (blk_below (g := gb576) qorq hb); replace HB := Aside0.mk (below_step qj1o hb); have hcy6_550_0 := (show World.cell? _ ⟨gb550, 0, none⟩ = some (.int .u64 a0_0) from (blk_cell BK550.out 0).trans rfl); have hcy6_550_1 := (show World.cell? _ ⟨gb550, 1, none⟩ = some (.int .u32 a0_1) from (blk_cell BK550.out 1).trans rfl); clear hb hbox hg; have hnb34 := NB576_550.out; have hnc34 := NB550_576.out; have hnb35 := NB576_551.out; have hnc35 := NB551_576.out; have hnb36 := NB576_563.out; have hnc36 := NB563_576.out; have hnb37 := NB576_564.out; have hnc37 := NB564_576.out; have hnb38 := NB576_577.out; have hnc38 := NB577_576.out; obtain ⟨hcz39_0, hcz39_1, hcz39_2, hcz39_3, hcz39_4, hcz39_5⟩ := cells6 BK576.out; obtain ⟨hfz39_0, hfz39_1, hfz39_2, hfz39_3, hfz39_4, hfz39_5⟩ := frozen6 BK576.out; have hnb40 := NB577_550.out; have hnc40 := NB550_577.out; have hnb41 := NB577_551.out; have hnc41 := NB551_577.out; have hnb42 := NB577_563.out; have hnc42 := NB563_577.out; have hnb43 := NB577_564.out; have hnc43 := NB564_577.out; obtain ⟨hcz44_0, hcz44_1, hcz44_2, hcz44_3, hcz44_4⟩ := cells5 BK577.out; obtain ⟨hfz44_0, hfz44_1, hfz44_2, hfz44_3, hfz44_4⟩ := frozen5 BK577.out) | ((with_reducible refine gate_callee (f := 10) rfl ?_); refine goesL_ (some 35) rfl rfl Tryd.func10 qg3m rfl #[] rfl qraq ?_; (with_reducible refine (gangwaylaw20_fixed.calls kj2  true _ ?sideL A13.out).mono ?_); (case sideL => exact laid_below HLD.out q6i5); rintro e w45 ⟨rfl, hb⟩; refine ⟨_, rfl, ?_⟩; replace BK550 := Aside0.mk (blk_below (g := gb550) (o := .cells #[.int .u64 a0_0, .int .u32 a0_1] 25 (0, 0)) (by (with_reducible repeat (first | refine blk_drewN ?_ _ | refine blk_drew ?_ | refine blk_alloc ?_ _ | refine blk_far ?_ NB550_577.out _ | refine blk_far ?_ NB550_576.out _)); exact BK550.out) hb); replace BK551 := Aside0.mk (blk_below (g := gb551) (o := .cells #[.int .u64 a1_0, .int .u64 a1_1, .bool a1_2, .int .i64 a1_3, .bool a1_4, .int .i64 a1_5, .int .i64 a1_6, .string x552007_2] 29 (0, 0)) (by (with_reducible repeat (first | refine blk_drewN ?_ _ | refine blk_drew ?_ | refine blk_alloc ?_ _ | refine blk_far ?_ NB551_577.out _ | refine blk_far ?_ NB551_576.out _)); exact BK551.out) hb); replace BK563 := Aside0.mk (blk_below (g := gb563) (o := .cells #[.int .i64 t552, .int .u32 t553, .int .i64 t554, .int .i64 t555, .bool t556, .string t557] 33 (0, 0)) (by (with_reducible repeat (first | refine blk_drewN ?_ _ | refine blk_drew ?_ | refine blk_alloc ?_ _ | refine blk_far ?_ NB563_577.out _ | refine blk_far ?_ NB563_576.out _)); exact BK563.out) hb); replace BK564 := Aside0.mk (blk_below (g := gb564) (o := .cells #[.int .i64 t558, .int .u64 t559, .int .u32 t560, .int .u64 t561, .int .u32 t562] 35 (0, 0)) (by (with_reducible repeat (first | refine blk_drewN ?_ _ | refine blk_drew ?_ | refine blk_alloc ?_ _ | refine blk_far ?_ NB564_577.out _ | refine blk_far ?_ NB564_576.out _)); exact BK564.out) hb); replace BK576 := Aside0.mk (blk_below (g := gb576) (o := .cells #[.int .i64 t565, .int .u32 t566, .int .i64 t567, .int .i64 t568, .bool t569, .string t570] 33 (0, 0)) (by (with_reducible repeat (first | refine blk_drewN ?_ _ | refine blk_drew ?_ | refine blk_alloc ?_ _ | refine blk_far ?_ NB576_577.out _)); exact (put6_0_6 qorq)) hb); replace BK577 := Aside0.mk (blk_below (g := gb577) (o := .cells #[.int .i64 t571, .int .u64 t572, .int .u32 t573, .int .u64 t574, .int .u32 t575] 35 (0, 0)) (by (with_reducible repeat (first | refine blk_drewN ?_ _ | refine blk_drew ?_ | refine blk_alloc ?_ _)); exact put5_0_5 (by (with_reducible repeat (first | refine blk_drewN ?_ _ | refine blk_drew ?_ | refine blk_alloc ?_ _ | refine blk_far ?_ NB577_576.out _)); exact BK577.out)) hb); replace HB := Aside0.mk (below_step q6i5 hb); have hcy7_550_0 := (show World.cell? _ ⟨gb550, 0, none⟩ = some (.int .u64 a0_0) from (blk_cell BK550.out 0).trans rfl); have hcy7_550_1 := (show World.cell? _ ⟨gb550, 1, none⟩ = some (.int .u32 a0_1) from (blk_cell BK550.out 1).trans rfl); (try clear hb); (try clear hb2); (try clear hk); (try clear hi); obtain ⟨hcz46_0, hcz46_1, hcz46_2, hcz46_3, hcz46_4, hcz46_5⟩ := cells6 BK563.out; obtain ⟨hfz46_0, hfz46_1, hfz46_2, hfz46_3, hfz46_4, hfz46_5⟩ := frozen6 BK563.out; obtain ⟨hcz47_0, hcz47_1, hcz47_2, hcz47_3, hcz47_4, hcz47_5⟩ := cells6 BK576.out; obtain ⟨hfz47_0, hfz47_1, hfz47_2, hfz47_3, hfz47_4, hfz47_5⟩ := frozen6 BK576.out; obtain ⟨hcz48_0, hcz48_1, hcz48_2, hcz48_3, hcz48_4⟩ := cells5 BK564.out; obtain ⟨hfz48_0, hfz48_1, hfz48_2, hfz48_3, hfz48_4⟩ := frozen5 BK564.out; obtain ⟨hcz49_0, hcz49_1, hcz49_2, hcz49_3, hcz49_4⟩ := cells5 BK577.out; obtain ⟨hfz49_0, hfz49_1, hfz49_2, hfz49_3, hfz49_4⟩ := frozen5 BK577.out))
     go_ret
     exact ⟨qxu5, q6i5⟩
    ·rw [if_neg c15] at H
     exact absurd H q6hr
   ·replace c14 := Bool.eq_false_iff.mpr c14
    subst c14
    rw [if_neg (show ¬ (false = true) by decide)] at H
    exact absurd H q6hr

end Go.Proofs.YtbkgaplldfilnaaDoor.P
