-- slim
-- Written by wip/hprint.py (this session's program) through the kit's print program; hand contracts are marked 'by hand'.
import Derived.Test.YtbkgaplldfilnaaDoorAbb
import Derived.Test.YtbkgaplldfilnaaDoorRow
import Derived.Test.YtbkgaplldfilnaaDoorPx0
import Derived.Test.YtbkgaplldfilnaaDoorPx23
namespace Go.Proofs.YtbkgaplldfilnaaDoor.P
open Go.RowKit Go.Proofs.YtbkgaplldfilnaaDoorW.PrintWords Go.Proofs.YtbkgaplldfilnaaDoorW.PrintLast Go.Proofs.YtbkgaplldfilnaaDoorW.PrintMore
attribute [local go_sem] max2_int min2_int max_two min_two max_three min_three max_four min_four   -- for this text's walks alone
set_option linter.unusedVariables false
set_option linter.unusedSimpArgs false

theorem qnos {p : Prop} (h : p := by (with_reducible repeat (first | refine blk_drewN ?_ _ | refine blk_drew ?_ | refine blk_alloc ?_ _)); exact BK273.out) : p := h
theorem qs4i {p : Prop} (h : p := by (with_reducible repeat (first | refine blk_drewN ?_ _ | refine blk_drew ?_ | refine blk_alloc ?_ _)); exact BK274.out) : p := h
theorem q2ld {p : Prop} (h : p := by repeat (first | (with_reducible first | exact HB.out | apply below_alloc | apply pw_below_drewN | apply below_drew1 | refine below_set ?_ GE273.out) | exact HB.out)) : p := h
theorem qp9y {p : Prop} (h : p := by repeat (first | (with_reducible first | exact HB.out | apply below_alloc | apply pw_below_drewN | apply below_drew1 | refine below_set ?_ GEz0.out | refine below_set ?_ GEz2.out) | exact HB.out)) : p := h
theorem qxbw {p : Prop} (h : p := by repeat (first | (with_reducible first | exact HB.out | apply below_alloc | apply pw_below_drewN | apply below_drew1 | refine below_set ?_ GE273.out | refine below_set ?_ GE274.out) | exact HB.out)) : p := h
theorem qog1 {p : Prop} (h : p := by with_reducible repeat (first | (apply blk_far; case hp => assumption) | apply blk_set | refine blk_drewN ?_ _ | refine blk_drew ?_ | refine blk_alloc ?_ _ | exact BK273.out | exact BK274.out | exact BK281.out)) : p := h
/-! ### gangwayref05_Of: function 19 -/
def gangwayref05_Of.f (k : Nat) (a0_0 : Int) (a0_1 : Int) (a0_2 : Bool) (a0_3 : Int) (a0_4 : Bool) (a0_5 : Int) (a0_6 : Int) (a0_7 : ByteArray) : Option (Int × Int × Int × Int × Int × Bool) := (gangwayref05_Parse.f k a0_7).bind fun bt275 => (if a0_6 = 2054 then (if bt275.2.2.2.2.2 = 0 then (some (bt275.1, bt275.2.1, bt275.2.2.1, bt275.2.2.2.1, bt275.2.2.2.2.1, true)) else (some (0, 0, 0, 0, 0, false))) else (some (0, 0, 0, 0, 0, false)))
theorem gangwayref05_Of.mono : ∀ a0 a1 a2 a3 a4 a5 a6 a7 k, LeO (gangwayref05_Of.f k a0 a1 a2 a3 a4 a5 a6 a7) (gangwayref05_Of.f (k + 1) a0 a1 a2 a3 a4 a5 a6 a7) := by
 intro a0 a1 a2 a3 a4 a5 a6 a7 k
 unfold gangwayref05_Of.f
 repeat' first
   | (with_reducible exact gangwayref05_Parse.mono _ _)
   | (with_reducible exact LeO.refl _)
   | (with_reducible exact LeO.none _)
   | (with_reducible refine LeO.ite ?_ ?_)
   | (with_reducible refine LeO.bind ?_ (fun _ => ?_))
   | exact gangwayref05_Parse.mono _ _
   | exact LeO.none _
   | refine LeO.ite ?_ ?_
   | refine LeO.bind ?_ (fun _ => ?_)
set_option maxRecDepth 100000 in
theorem z24_0 {p : Prop} (h : p := by
 simp only [Option.some.injEq, Prod.mk.injEq] at H
 obtain ⟨rfl, rfl, rfl, rfl, rfl, rfl⟩ := H
 go_enter Tryd.func19, Tryd.ntmps19
 go_wp2_with (first | ((with_reducible refine gate_st (ty := 29) rfl ?_); refine storeC8 rfl rfl rfl rfl rfl qog1 qr2c qg3m rfl ?_) | ((with_reducible refine gate_ld (ty := 29) rfl ?_); (try (with_reducible refine gate_gd rfl ?_; refine gate_guard q8ju ?_; dsimp only)); refine load_st rfl rfl rfl qog1 qr2c Tryd.underlying29 rfl qg3m ?_; (try simp only [Act.put, List.setIfInBounds_toArray, List.set_cons_zero, List.set_cons_succ])) | ((with_reducible refine gate_st (ty := 35) rfl ?_); refine storeC5 rfl rfl rfl rfl rfl qog1 qr2c qg3m rfl ?_) | ((with_reducible refine gate_ld (ty := 35) rfl ?_); (try (with_reducible refine gate_gd rfl ?_; refine gate_guard q8ju ?_; dsimp only)); refine load_st rfl rfl rfl qog1 qr2c Tryd.underlying35 rfl qg3m ?_; (try simp only [Act.put, List.setIfInBounds_toArray, List.set_cons_zero, List.set_cons_succ])) | ((with_reducible refine gate_dst (N := 1) rfl ?_); refine box_event qgcr (N := 1) qgcr (cs := #[.int .u64 a0_0, .int .u64 a0_1, .bool a0_2, .int .i64 a0_3, .bool a0_4, .int .i64 a0_5, .int .i64 a0_6, .string a0_7]) (t := 29) qlto ?_; intro gbz0 hg wz1 hbox hb; have BK273 := Aside0.mk (hbox); have GEz0 := Aside0.mk ((qisx : w.heap.size ≤ gbz0)); replace HB := Aside0.mk (below_step qpag hb); clear hb hbox hg) | ((with_reducible refine gate_dst (N := 2) rfl ?_); refine box_event qgcr (N := 2) qgcr (cs := #[.int .i64 0, .int .u64 0, .int .u32 0, .int .u64 0, .int .u32 0]) (t := 35) qlto ?_; intro gbz2 hg wz3 hbox hb; have BK274 := Aside0.mk (hbox); have GEz2 := Aside0.mk ((by rw [hg]; exact (below_size qmef) : w.heap.size ≤ gbz2)); have NBz0_274 := Aside0.mk ((by rw [hg]; exact Nat.ne_of_lt (blk_lt (g := gbz0) qnos) : gbz0 ≠ gbz2)); have NBz2_273 := Aside0.mk ((by rw [hg]; exact Nat.ne_of_gt (blk_lt (g := gbz0) qnos) : gbz2 ≠ gbz0)); replace BK273 := Aside0.mk (blk_below (g := gbz0) qnos hb); replace HB := Aside0.mk (below_step qmef hb); clear hb hbox hg; have hnbz4 := NBz0_274.out; have hncz4 := NBz2_273.out; obtain ⟨hczz5_0, hczz5_1, hczz5_2, hczz5_3, hczz5_4, hczz5_5, hczz5_6, hczz5_7⟩ := cells8 BK273.out; obtain ⟨hfzz5_0, hfzz5_1, hfzz5_2, hfzz5_3, hfzz5_4, hfzz5_5, hfzz5_6, hfzz5_7⟩ := frozen8 BK273.out) | ((with_reducible refine gate_callee (f := 37) rfl ?_); refine goesL_ (some 9) rfl rfl Tryd.func37 qg3m rfl #[.string a0_7] rfl qraq ?_; (with_reducible refine (gangwayref05_Parse.calls k a0_7 t275 t276 t277 t278 t279 t280 _ A2.out).mono ?_); rintro e wz6 ⟨rfl, hb⟩; refine ⟨_, rfl, ?_⟩; replace BK273 := Aside0.mk (blk_below (g := gbz0) qnos hb); replace BK274 := Aside0.mk (blk_below (g := gbz2) qs4i hb); replace HB := Aside0.mk (below_step qp9y hb); obtain ⟨hcyz7_273_0, hcyz7_273_1, hcyz7_273_2, hcyz7_273_3, hcyz7_273_4, hcyz7_273_5, hcyz7_273_6, hcyz7_273_7⟩ := cells8 BK273.out; (try clear hb); (try clear hb2); (try clear hk); (try clear hi)) | ((with_reducible refine gate_dst (N := 4) rfl ?_); refine box_event qgcr (N := 4) qgcr (cs := #[.int .i64 0, .int .u64 0, .int .u32 0, .int .u64 0, .int .u32 0]) (t := 35) qlto ?_; intro gbz8 hg wz9 hbox hb; have BK281 := Aside0.mk (hbox); have GEz8 := Aside0.mk ((by rw [hg]; exact (below_size qp9y) : w.heap.size ≤ gbz8)); have NBz0_281 := Aside0.mk ((by rw [hg]; exact Nat.ne_of_lt (blk_lt (g := gbz0) qnos) : gbz0 ≠ gbz8)); have NBz8_273 := Aside0.mk ((by rw [hg]; exact Nat.ne_of_gt (blk_lt (g := gbz0) qnos) : gbz8 ≠ gbz0)); have NBz2_281 := Aside0.mk ((by rw [hg]; exact Nat.ne_of_lt (blk_lt (g := gbz2) qs4i) : gbz2 ≠ gbz8)); have NBz8_274 := Aside0.mk ((by rw [hg]; exact Nat.ne_of_gt (blk_lt (g := gbz2) qs4i) : gbz8 ≠ gbz2)); replace BK273 := Aside0.mk (blk_below (g := gbz0) qnos hb); replace BK274 := Aside0.mk (blk_below (g := gbz2) qs4i hb); replace HB := Aside0.mk (below_step qp9y hb); clear hb hbox hg; have hnbz10 := NBz8_273.out; have hncz10 := NBz0_281.out; have hnbz11 := NBz8_274.out; have hncz11 := NBz2_281.out; obtain ⟨hczz12_0, hczz12_1, hczz12_2, hczz12_3, hczz12_4⟩ := cells5 BK281.out; obtain ⟨hfzz12_0, hfzz12_1, hfzz12_2, hfzz12_3, hfzz12_4⟩ := frozen5 BK281.out; obtain ⟨hczz13_0, hczz13_1, hczz13_2, hczz13_3, hczz13_4, hczz13_5, hczz13_6, hczz13_7⟩ := cells8 BK273.out; obtain ⟨hfzz13_0, hfzz13_1, hfzz13_2, hfzz13_3, hfzz13_4, hfzz13_5, hfzz13_6, hfzz13_7⟩ := frozen8 BK273.out; obtain ⟨hczz14_0, hczz14_1, hczz14_2, hczz14_3, hczz14_4⟩ := cells5 BK274.out; obtain ⟨hfzz14_0, hfzz14_1, hfzz14_2, hfzz14_3, hfzz14_4⟩ := frozen5 BK274.out))
 refine bodyPost_ret (results_ct rfl _ _ gbz2 35 #[.int .i64 0, .int .u64 0, .int .u32 0, .int .u64 0, .int .u32 0] (0, 0) _ rfl (by (with_reducible repeat (first | refine blk_drewN ?_ _ | refine blk_drew ?_ | refine blk_alloc ?_ _)); exact put5_0_5 (by (with_reducible repeat (first | refine blk_drewN ?_ _ | refine blk_drew ?_ | refine blk_alloc ?_ _ | refine blk_far ?_ NBz2_281.out _)); exact BK274.out)) Tryd.underlying35 rfl qg3m) rfl ?_
 exact ⟨qxu5, (by repeat (first | (with_reducible first | exact HB.out | apply below_alloc | apply pw_below_drewN | apply below_drew1 | refine below_set ?_ GEz0.out | refine below_set ?_ GEz2.out | refine below_set ?_ GEz8.out) | exact HB.out))⟩) : p := h
theorem z24_1 {p : Prop} (h : p := by
 go_wp2
 go_ret
 exact ⟨q8z4, qlmv⟩) : p := h
set_option maxHeartbeats 8000000 in
set_option maxRecDepth 100000 in
theorem gangwayref05_Of.calls (k : Nat) (a0_0 : Int) (a0_1 : Int) (a0_2 : Bool) (a0_3 : Int) (a0_4 : Bool) (a0_5 : Int) (a0_6 : Int) (a0_7 : ByteArray) (r1 : Int) (r2 : Int) (r3 : Int) (r4 : Int) (r5 : Int) (r6 : Bool) (w : World) (h : gangwayref05_Of.f k a0_0 a0_1 a0_2 a0_3 a0_4 a0_5 a0_6 a0_7 = some (r1, r2, r3, r4, r5, r6)) :
  Calls Tryd.prog 19 #[.agg #[.int .u64 a0_0, .int .u64 a0_1, .bool a0_2, .int .i64 a0_3, .bool a0_4, .int .i64 a0_5, .int .i64 a0_6, .string a0_7]] w fun e w' => e = .returned (.tuple #[.agg #[.int .i64 r1, .int .u64 r2, .int .u32 r3, .int .u64 r4, .int .u32 r5], .bool r6]) ∧ Below w.heap.size w w' := by
 have hu29 := Tryd.underlying29
 have hu35 := Tryd.underlying35
 have HB := Aside0.mk (Below.refl w.heap.size w)
 have H := h
 unfold gangwayref05_Of.f at H
 clear h
 replace H := Option.bind_eq_some_iff.mp H
 obtain ⟨⟨t275, t276, t277, t278, t279, t280⟩, A20, H⟩ := H
 try dsimp only at H
 have A2 := Aside0.mk A20
 clear A20
 by_cases c3 : a0_6 = 2054
 ·rw [if_pos c3] at H
  have c3b0 : (a0_6 == 2054) = true := beq_iff_eq.mpr c3
  have c3b1 : (a0_6 != 2054) = false := bne_eq_false_iff_eq.mpr c3
  clear c3
  by_cases c4 : t280 = 0
  ·rw [if_pos c4] at H
   have c4b0 : (t280 == 0) = true := beq_iff_eq.mpr c4
   have c4b1 : (t280 != 0) = false := bne_eq_false_iff_eq.mpr c4
   clear c4
   simp only [Option.some.injEq, Prod.mk.injEq] at H
   obtain ⟨rfl, rfl, rfl, rfl, rfl, rfl⟩ := H
   go_enter Tryd.func19, Tryd.ntmps19
   go_wp2_with (first | ((with_reducible refine gate_st (ty := 29) rfl ?_); refine storeC8 rfl rfl rfl rfl rfl qog1 qr2c qg3m rfl ?_) | ((with_reducible refine gate_ld (ty := 29) rfl ?_); (try (with_reducible refine gate_gd rfl ?_; refine gate_guard q8ju ?_; dsimp only)); refine load_st rfl rfl rfl qog1 qr2c Tryd.underlying29 rfl qg3m ?_; (try simp only [Act.put, List.setIfInBounds_toArray, List.set_cons_zero, List.set_cons_succ])) | ((with_reducible refine gate_st (ty := 35) rfl ?_); refine storeC5 rfl rfl rfl rfl rfl qog1 qr2c qg3m rfl ?_) | ((with_reducible refine gate_ld (ty := 35) rfl ?_); (try (with_reducible refine gate_gd rfl ?_; refine gate_guard q8ju ?_; dsimp only)); refine load_st rfl rfl rfl qog1 qr2c Tryd.underlying35 rfl qg3m ?_; (try simp only [Act.put, List.setIfInBounds_toArray, List.set_cons_zero, List.set_cons_succ])) | ((with_reducible refine gate_dst (N := 1) rfl ?_); refine box_event qgcr (N := 1) qgcr (cs := #[.int .u64 a0_0, .int .u64 a0_1, .bool a0_2, .int .i64 a0_3, .bool a0_4, .int .i64 a0_5, .int .i64 a0_6, .string a0_7]) (t := 29) qlto ?_; intro gb273 hg w5 hbox hb; have BK273 := Aside0.mk (hbox); have GE273 := Aside0.mk ((qisx : w.heap.size ≤ gb273)); replace HB := Aside0.mk (below_step qpag hb); clear hb hbox hg) | ((with_reducible refine gate_dst (N := 2) rfl ?_); refine box_event qgcr (N := 2) qgcr (cs := #[.int .i64 0, .int .u64 0, .int .u32 0, .int .u64 0, .int .u32 0]) (t := 35) qlto ?_; intro gb274 hg w6 hbox hb; have BK274 := Aside0.mk (hbox); have GE274 := Aside0.mk ((by rw [hg]; exact (below_size q2ld) : w.heap.size ≤ gb274)); have NB273_274 := Aside0.mk ((by rw [hg]; exact Nat.ne_of_lt (blk_lt (g := gb273) qnos) : gb273 ≠ gb274)); have NB274_273 := Aside0.mk ((by rw [hg]; exact Nat.ne_of_gt (blk_lt (g := gb273) qnos) : gb274 ≠ gb273)); replace BK273 := Aside0.mk (blk_below (g := gb273) qnos hb); replace HB := Aside0.mk (below_step q2ld hb); clear hb hbox hg; have hnb7 := NB273_274.out; have hnc7 := NB274_273.out; obtain ⟨hcz8_0, hcz8_1, hcz8_2, hcz8_3, hcz8_4, hcz8_5, hcz8_6, hcz8_7⟩ := cells8 BK273.out; obtain ⟨hfz8_0, hfz8_1, hfz8_2, hfz8_3, hfz8_4, hfz8_5, hfz8_6, hfz8_7⟩ := frozen8 BK273.out) | ((with_reducible refine gate_callee (f := 37) rfl ?_); refine goesL_ (some 9) rfl rfl Tryd.func37 qg3m rfl #[.string a0_7] rfl qraq ?_; (with_reducible refine (gangwayref05_Parse.calls k a0_7 t275 t276 t277 t278 t279 t280 _ A2.out).mono ?_); rintro e w9 ⟨rfl, hb⟩; refine ⟨_, rfl, ?_⟩; replace BK273 := Aside0.mk (blk_below (g := gb273) qnos hb); replace BK274 := Aside0.mk (blk_below (g := gb274) qs4i hb); replace HB := Aside0.mk (below_step qxbw hb); obtain ⟨hcy2_273_0, hcy2_273_1, hcy2_273_2, hcy2_273_3, hcy2_273_4, hcy2_273_5, hcy2_273_6, hcy2_273_7⟩ := cells8 BK273.out; (try clear hb); (try clear hb2); (try clear hk); (try clear hi)) | ((with_reducible refine gate_dst (N := 4) rfl ?_); refine box_event qgcr (N := 4) qgcr (cs := #[.int .i64 0, .int .u64 0, .int .u32 0, .int .u64 0, .int .u32 0]) (t := 35) qlto ?_; intro gb281 hg w10 hbox hb; have BK281 := Aside0.mk (hbox); have GE281 := Aside0.mk ((by rw [hg]; exact (below_size qxbw) : w.heap.size ≤ gb281)); have NB273_281 := Aside0.mk ((by rw [hg]; exact Nat.ne_of_lt (blk_lt (g := gb273) qnos) : gb273 ≠ gb281)); have NB281_273 := Aside0.mk ((by rw [hg]; exact Nat.ne_of_gt (blk_lt (g := gb273) qnos) : gb281 ≠ gb273)); have NB274_281 := Aside0.mk ((by rw [hg]; exact Nat.ne_of_lt (blk_lt (g := gb274) qs4i) : gb274 ≠ gb281)); have NB281_274 := Aside0.mk ((by rw [hg]; exact Nat.ne_of_gt (blk_lt (g := gb274) qs4i) : gb281 ≠ gb274)); replace BK273 := Aside0.mk (blk_below (g := gb273) qnos hb); replace BK274 := Aside0.mk (blk_below (g := gb274) qs4i hb); replace HB := Aside0.mk (below_step qxbw hb); clear hb hbox hg; have hnb11 := NB281_273.out; have hnc11 := NB273_281.out; have hnb12 := NB281_274.out; have hnc12 := NB274_281.out; obtain ⟨hcz13_0, hcz13_1, hcz13_2, hcz13_3, hcz13_4⟩ := cells5 BK281.out; obtain ⟨hfz13_0, hfz13_1, hfz13_2, hfz13_3, hfz13_4⟩ := frozen5 BK281.out; obtain ⟨hcz14_0, hcz14_1, hcz14_2, hcz14_3, hcz14_4, hcz14_5, hcz14_6, hcz14_7⟩ := cells8 BK273.out; obtain ⟨hfz14_0, hfz14_1, hfz14_2, hfz14_3, hfz14_4, hfz14_5, hfz14_6, hfz14_7⟩ := frozen8 BK273.out; obtain ⟨hcz15_0, hcz15_1, hcz15_2, hcz15_3, hcz15_4⟩ := cells5 BK274.out; obtain ⟨hfz15_0, hfz15_1, hfz15_2, hfz15_3, hfz15_4⟩ := frozen5 BK274.out))
   refine bodyPost_ret (results_ct rfl _ _ gb274 35 #[.int .i64 t275, .int .u64 t276, .int .u32 t277, .int .u64 t278, .int .u32 t279] (0, 0) _ rfl (by (with_reducible repeat (first | refine blk_drewN ?_ _ | refine blk_drew ?_ | refine blk_alloc ?_ _)); exact put5_0_5 (by (with_reducible repeat (first | refine blk_drewN ?_ _ | refine blk_drew ?_ | refine blk_alloc ?_ _ | refine blk_far ?_ NB274_281.out _)); exact BK274.out)) Tryd.underlying35 rfl qg3m) rfl ?_
   exact ⟨qxu5, (by repeat (first | (with_reducible first | exact HB.out | apply below_alloc | apply pw_below_drewN | apply below_drew1 | refine below_set ?_ GE273.out | refine below_set ?_ GE274.out | refine below_set ?_ GE281.out) | exact HB.out))⟩
  ·rw [if_neg c4] at H
   have c4b0 : (t280 == 0) = false := beq_eq_false_iff_ne.mpr c4
   have c4b1 : (t280 != 0) = true := bne_iff_ne.mpr c4
   exact z24_0
 ·rw [if_neg c3] at H
  have c3b0 : (a0_6 == 2054) = false := beq_eq_false_iff_ne.mpr c3
  have c3b1 : (a0_6 != 2054) = true := bne_iff_ne.mpr c3
  exact z24_0
/-! ### gangwayref03_Fold: function 66 -/
def gangwayref03_Fold.f (a0 : Int) : Option (Int) := if a0 = 0 then (some 0) else (some (wrap64 ((Int.tmod (wrap64 (a0 - 1)) 65535) + 1)))
set_option maxHeartbeats 8000000 in
set_option maxRecDepth 100000 in
theorem gangwayref03_Fold.calls (a0 : Int) (r : Int) (w : World) (h : gangwayref03_Fold.f a0 = some r) :
  Calls Tryd.prog 66 #[.int .i64 a0] w fun e w' => e = .returned (.int .i64 r) ∧ Drawn0 w w' := by
 have H := h
 unfold gangwayref03_Fold.f at H
 clear h
 by_cases c2 : a0 = 0
 ·rw [if_pos c2] at H
  have c2b0 : (a0 == 0) = true := beq_iff_eq.mpr c2
  have c2b1 : (a0 != 0) = false := bne_eq_false_iff_eq.mpr c2
  clear c2
  obtain rfl := Option.some.inj H
  go_enter Tryd.func66, Tryd.ntmps66
  exact z24_1
 ·rw [if_neg c2] at H
  have c2b0 : (a0 == 0) = false := beq_eq_false_iff_ne.mpr c2
  have c2b1 : (a0 != 0) = true := bne_iff_ne.mpr c2
  obtain rfl := Option.some.inj H
  go_enter Tryd.func66, Tryd.ntmps66
  exact z24_1
/-! ### gangwayref03_Total: function 67 -/
def gangwayref03_Total.l0 : Nat → ByteArray → Int → Int → Option (Int)
 | 0, _, _, _ => none
 | k + 1, x0, x3, x4 => if x4 < (x0.size : Int) then (if (Int.tmod x4 2) = 0 then (if 0 ≤ x4 then (gangwayref03_Total.l0 k x0 (wrap64 (x3 + (wrap64 (256 * (wrap64 (bt x0 x4)))))) (wrap64 (x4 + 1))) else (none)) else (if 0 ≤ x4 then (gangwayref03_Total.l0 k x0 (wrap64 (x3 + (wrap64 (bt x0 x4)))) (wrap64 (x4 + 1))) else (none))) else (some x3)
def gangwayref03_Total.f (k : Nat) (a0 : ByteArray) : Option (Int) := gangwayref03_Total.l0 k a0 0 0
theorem gangwayref03_Total.mono_l : ∀ k, (∀ y0 y1 y2, LeO (gangwayref03_Total.l0 k y0 y1 y2) (gangwayref03_Total.l0 (k + 1) y0 y1 y2))
 | 0 => fun _ _ _ r h => by simp [gangwayref03_Total.l0] at h
 | k + 1 => by
  have ih0 := gangwayref03_Total.mono_l k
  ·intro y0 y1 y2
   unfold gangwayref03_Total.l0
   repeat' first
   | (with_reducible exact ih0 _ _ _)
   | (with_reducible exact LeO.refl _)
   | (with_reducible exact LeO.none _)
   | (with_reducible refine LeO.ite ?_ ?_)
   | (with_reducible refine LeO.bind ?_ (fun _ => ?_))
   | exact ih0 _ _ _
   | exact LeO.none _
   | refine LeO.ite ?_ ?_
   | refine LeO.bind ?_ (fun _ => ?_)
theorem gangwayref03_Total.mono : ∀ a0 k, LeO (gangwayref03_Total.f k a0) (gangwayref03_Total.f (k + 1) a0) := by
 intro a0 k
 have ih0 := gangwayref03_Total.mono_l k
 unfold gangwayref03_Total.f
 repeat' first
   | (with_reducible exact ih0 _ _ _)
   | (with_reducible exact LeO.refl _)
   | (with_reducible exact LeO.none _)
   | (with_reducible refine LeO.ite ?_ ?_)
   | (with_reducible refine LeO.bind ?_ (fun _ => ?_))
   | exact ih0 _ _ _
   | exact LeO.none _
   | refine LeO.ite ?_ ?_
   | refine LeO.bind ?_ (fun _ => ?_)
set_option maxHeartbeats 8000000 in
set_option maxRecDepth 100000 in
theorem gangwayref03_Total.calls (k : Nat) (a0 : ByteArray) (r : Int) (w : World) (h : gangwayref03_Total.f k a0 = some r) :
  Calls Tryd.prog 67 #[.string a0] w fun e w' => e = .returned (.int .i64 r) ∧ Drawn0 w w' := by
 have H := h
 unfold gangwayref03_Total.f at H
 clear h
 have H' := Aside0.mk H
 clear H
 go_enter Tryd.func67, Tryd.ntmps67
 go_wp2
 go_loopg [3, 4] k (fun kq v3 v4 w' => ∃ (x3_1 : Int) (x4_1 : Int), v3 = .int .i64 x3_1 ∧ v4 = .int .i64 x4_1 ∧ Aside0 (gangwayref03_Total.l0 kq a0 x3_1 x4_1 = some r) ∧ Aside0 (kq ≤ k) ∧ Drawn0 w w')
 case atStart => exact ⟨(0), (0), q8z4, q8z4, H', ⟨Nat.le_refl _⟩, qlmv⟩
 case round =>
  clear H'
  obtain ⟨x3_1, x4_1, rfl, rfl, HA, HK1, ⟨m1, rfl⟩⟩ := hrel
  cases gk with
  | zero => exact absurd HA.out (by simp [gangwayref03_Total.l0])
  | succ k1 =>
   have H := HA.out
   clear HA
   simp only [gangwayref03_Total.l0] at H
   by_cases c2 : x4_1 < (a0.size : Int)
   ·rw [if_pos c2] at H
    have c2b0 : decide (x4_1 < (a0.size : Int)) = true := decide_eq_true c2
    clear c2
    by_cases c3 : (Int.tmod x4_1 2) = 0
    ·rw [if_pos c3] at H
     have c3b0 : ((Int.tmod x4_1 2) == 0) = true := beq_iff_eq.mpr c3
     have c3b1 : ((Int.tmod x4_1 2) != 0) = false := bne_eq_false_iff_eq.mpr c3
     clear c3
     by_cases c4 : 0 ≤ x4_1
     ·rw [if_pos c4] at H
      have c4b0 : decide (0 ≤ x4_1) = true := decide_eq_true c4
      clear c4
      have H' := Aside0.mk H
      clear H
      have p5 : 0 ≤ (x4_1 : Int) := of_decide_eq_true qlss
      have q5 : x4_1 < (a0.size : Int) := of_decide_eq_true qlss
      have hx5 := bt_at a0 x4_1
      replace p5 := eq_true p5
      replace q5 := eq_true q5
      go_wp2
      go_roundg k1
      case measure => have := HK1.out; omega
      case rel => exact ⟨(wrap64 (x3_1 + (wrap64 (256 * (wrap64 (bt a0 x4_1)))))), (wrap64 (x4_1 + 1)), q8z4, q8z4, H', ⟨(by have := HK1.out; omega)⟩, qlmv⟩
     ·rw [if_neg c4] at H
      exact absurd H q6hr
    ·rw [if_neg c3] at H
     have c3b0 : ((Int.tmod x4_1 2) == 0) = false := beq_eq_false_iff_ne.mpr c3
     have c3b1 : ((Int.tmod x4_1 2) != 0) = true := bne_iff_ne.mpr c3
     by_cases c6 : 0 ≤ x4_1
     ·rw [if_pos c6] at H
      have c6b0 : decide (0 ≤ x4_1) = true := decide_eq_true c6
      clear c6
      have H' := Aside0.mk H
      clear H
      have p7 : 0 ≤ (x4_1 : Int) := of_decide_eq_true qlss
      have q7 : x4_1 < (a0.size : Int) := of_decide_eq_true qlss
      have hx7 := bt_at a0 x4_1
      replace p7 := eq_true p7
      replace q7 := eq_true q7
      go_wp2
      go_roundg k1
      case measure => have := HK1.out; omega
      case rel => exact ⟨(wrap64 (x3_1 + (wrap64 (bt a0 x4_1)))), (wrap64 (x4_1 + 1)), q8z4, q8z4, H', ⟨(by have := HK1.out; omega)⟩, qlmv⟩
     ·rw [if_neg c6] at H
      exact absurd H q6hr
   ·rw [if_neg c2] at H
    have c2b0 : decide (x4_1 < (a0.size : Int)) = false := decide_eq_false c2
    clear c2
    obtain rfl := Option.some.inj H
    exact z24_1
/-! ### gangwayref03_Of: function 38 -/
def gangwayref03_Of.f (k : Nat) (a0 : ByteArray) : Option (Int) := (gangwayref03_Total.f k a0).bind fun t282 => ((gangwayref03_Fold.f t282).bind fun t283 => (some (wrap64 (65535 - t283))))
theorem gangwayref03_Of.mono : ∀ a0 k, LeO (gangwayref03_Of.f k a0) (gangwayref03_Of.f (k + 1) a0) := by
 intro a0 k
 unfold gangwayref03_Of.f
 repeat' first
   | (with_reducible exact gangwayref03_Total.mono _ _)
   | (with_reducible exact LeO.refl _)
   | (with_reducible exact LeO.none _)
   | (with_reducible refine LeO.ite ?_ ?_)
   | (with_reducible refine LeO.bind ?_ (fun _ => ?_))
   | exact gangwayref03_Total.mono _ _
   | exact LeO.none _
   | refine LeO.ite ?_ ?_
   | refine LeO.bind ?_ (fun _ => ?_)
set_option maxHeartbeats 8000000 in
set_option maxRecDepth 100000 in
theorem gangwayref03_Of.calls (k : Nat) (a0 : ByteArray) (r : Int) (w : World) (h : gangwayref03_Of.f k a0 = some r) :
  Calls Tryd.prog 38 #[.string a0] w fun e w' => e = .returned (.int .i64 r) ∧ Drawn0 w w' := by
 have H := h
 unfold gangwayref03_Of.f at H
 clear h
 replace H := Option.bind_eq_some_iff.mp H
 obtain ⟨t282, A20, H⟩ := H
 try dsimp only at H
 have A2 := Aside0.mk A20
 clear A20
 replace H := Option.bind_eq_some_iff.mp H
 obtain ⟨t283, A30, H⟩ := H
 try dsimp only at H
 have A3 := Aside0.mk A30
 clear A30
 obtain rfl := Option.some.inj H
 go_enter Tryd.func38, Tryd.ntmps38
 go_wp2_with (first | ((with_reducible refine gate_callee (f := 67) rfl ?_); refine goesL_ (some 4) rfl rfl Tryd.func67 qg3m rfl #[.string a0] rfl qraq ?_; (with_reducible refine (gangwayref03_Total.calls k a0 t282 _ A2.out).mono ?_); rintro e w' ⟨rfl, ⟨nd, rfl⟩⟩; refine ⟨_, rfl, ?_⟩) | ((with_reducible refine gate_callee (f := 66) rfl ?_); refine goesL_ (some 5) rfl rfl Tryd.func66 qg3m rfl #[.int .i64 t282] rfl qraq ?_; (with_reducible refine (gangwayref03_Fold.calls t282 t283 _ A3.out).mono ?_); rintro e w' ⟨rfl, ⟨nd, rfl⟩⟩; refine ⟨_, rfl, ?_⟩))
 go_ret
 exact ⟨q8z4, qlmv⟩
end Go.Proofs.YtbkgaplldfilnaaDoor.P
