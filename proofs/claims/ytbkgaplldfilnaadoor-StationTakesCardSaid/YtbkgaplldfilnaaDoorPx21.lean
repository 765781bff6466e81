-- slim
-- Written by wip/hprint.py (this session's program) through the kit's print program; hand contracts are marked 'by hand'.
import Derived.Test.YtbkgaplldfilnaaDoorAbb
import Derived.Test.YtbkgaplldfilnaaDoorRow
import Derived.Test.YtbkgaplldfilnaaDoorPx0
import Derived.Test.YtbkgaplldfilnaaDoorPx4
import Derived.Test.YtbkgaplldfilnaaDoorPx8
import Derived.Test.YtbkgaplldfilnaaDoorPx20
namespace Go.Proofs.YtbkgaplldfilnaaDoor.P
open Go.RowKit Go.Proofs.YtbkgaplldfilnaaDoorW.PrintWords Go.Proofs.YtbkgaplldfilnaaDoorW.PrintLast Go.Proofs.YtbkgaplldfilnaaDoorW.PrintMore
attribute [local go_sem] max2_int min2_int max_two min_two max_three min_three max_four min_four   -- for this text's walks alone
set_option linter.unusedVariables false
set_option linter.unusedSimpArgs false

theorem q9n1 {p : Prop} (h : p := by (with_reducible repeat (first | refine blk_drewN ?_ _ | refine blk_drew ?_ | refine blk_alloc ?_ _)); exact BK237.out) : p := h
theorem qlpn {p : Prop} (h : p := by (with_reducible repeat (first | refine blk_drewN ?_ _ | refine blk_drew ?_ | refine blk_alloc ?_ _)); exact BK238.out) : p := h
theorem qeco {p : Prop} (h : p := by (with_reducible repeat (first | refine blk_drewN ?_ _ | refine blk_drew ?_ | refine blk_alloc ?_ _)); exact BK239.out) : p := h
theorem qgo5 {p : Prop} (h : p := by (with_reducible repeat (first | refine blk_drewN ?_ _ | refine blk_drew ?_ | refine blk_alloc ?_ _)); exact BK256.out) : p := h
theorem qu7k {p : Prop} (h : p := by (with_reducible repeat (first | refine blk_drewN ?_ _ | refine blk_drew ?_ | refine blk_alloc ?_ _)); exact BK257.out) : p := h
theorem qhu9 {p : Prop} (h : p := by (with_reducible repeat (first | refine blk_drewN ?_ _ | refine blk_drew ?_ | refine blk_alloc ?_ _ | refine blk_far ?_ NB237_256.out _)); exact BK237.out) : p := h
theorem qzq4 {p : Prop} (h : p := by (with_reducible repeat (first | refine blk_drewN ?_ _ | refine blk_drew ?_ | refine blk_alloc ?_ _ | refine blk_far ?_ NB238_256.out _)); exact BK238.out) : p := h
theorem qi4t {p : Prop} (h : p := by (with_reducible repeat (first | refine blk_drewN ?_ _ | refine blk_drew ?_ | refine blk_alloc ?_ _ | refine blk_far ?_ NB239_256.out _)); exact BK239.out) : p := h
theorem qjno {p : Prop} (h : p := by (with_reducible repeat (first | refine blk_drewN ?_ _ | refine blk_drew ?_ | refine blk_alloc ?_ _ | refine blk_far ?_ NB238_248.out _)); exact BK238.out) : p := h
theorem qgz3 {p : Prop} (h : p := by (with_reducible repeat (first | refine blk_drewN ?_ _ | refine blk_drew ?_ | refine blk_alloc ?_ _ | refine blk_far ?_ NB239_238.out _)); exact BK239.out) : p := h
theorem qrzm {p : Prop} (h : p := by repeat (first | (with_reducible first | exact HB.out | apply below_alloc | apply pw_below_drewN | apply below_drew1 | refine below_set ?_ GE237.out) | exact HB.out)) : p := h
theorem q2zh {p : Prop} (h : p := by repeat (first | (with_reducible first | exact HB.out | apply below_alloc | apply pw_below_drewN | apply below_drew1 | refine below_set ?_ GE237.out | refine below_set ?_ GE238.out) | exact HB.out)) : p := h
theorem qnhf {p : Prop} (h : p := by repeat (first | (with_reducible first | exact HB.out | apply below_alloc | apply pw_below_drewN | apply below_drew1 | refine below_set ?_ GE237.out | refine below_set ?_ GE238.out | refine below_set ?_ GE239.out) | exact HB.out)) : p := h
theorem q5zg {p : Prop} (h : p := by repeat (first | (with_reducible first | exact HB.out | apply below_alloc | apply pw_below_drewN | apply below_drew1 | refine below_set ?_ GE237.out | refine below_set ?_ GE238.out | refine below_set ?_ GE239.out | refine below_set ?_ GE256.out) | exact HB.out)) : p := h
theorem qn6f {p : Prop} (h : p := by repeat (first | (with_reducible first | exact HB.out | apply below_alloc | apply pw_below_drewN | apply below_drew1 | refine below_set ?_ GE237.out | refine below_set ?_ GE238.out | refine below_set ?_ GE239.out | refine below_set ?_ GE248.out) | exact HB.out)) : p := h
theorem qzw7 {p : Prop} (h : p := by with_reducible repeat (first | (apply blk_far; case hp => assumption) | apply blk_set | refine blk_drewN ?_ _ | refine blk_drew ?_ | refine blk_alloc ?_ _ | exact BK237.out | exact BK238.out | exact BK239.out | exact BK248.out | exact BK256.out | exact BK257.out)) : p := h
theorem qq0k {p : Prop} (h : p := by repeat (first | (with_reducible first | exact HB.out | apply below_alloc | apply pw_below_drewN | apply below_drew1 | refine below_set ?_ GE237.out | refine below_set ?_ GE238.out | refine below_set ?_ GE239.out | refine below_set ?_ GE256.out | refine below_set ?_ GE257.out) | exact HB.out)) : p := h
theorem qv9l {p : Prop} (h : p := by rw [hg]; exact Nat.ne_of_gt (blk_lt (g := gb237) q9n1)) : p := h
theorem qftt {p : Prop} (h : p := by rw [hg]; exact Nat.ne_of_lt (blk_lt (g := gb237) q9n1)) : p := h
theorem q0cv {p : Prop} (h : p := by rw [hg]; exact Nat.ne_of_gt (blk_lt (g := gb238) qlpn)) : p := h
theorem qltk {p : Prop} (h : p := by rw [hg]; exact Nat.ne_of_lt (blk_lt (g := gb238) qlpn)) : p := h
theorem q9ny {p : Prop} (h : p := by rw [hg]; exact Nat.ne_of_gt (blk_lt (g := gb239) qeco)) : p := h
theorem qnbi {p : Prop} (h : p := by rw [hg]; exact Nat.ne_of_lt (blk_lt (g := gb239) qeco)) : p := h
theorem qi42 {p : Prop} (h : p := by (with_reducible repeat (first | refine blk_drewN ?_ _ | refine blk_drew ?_ | refine blk_alloc ?_ _)); exact put6_0_6 qgo5) : p := h
theorem q5uv {p : Prop} (h : p := by (with_reducible repeat (first | refine blk_drewN ?_ _ | refine blk_drew ?_ | refine blk_alloc ?_ _)); exact put5_0_5 qgz3) : p := h
theorem qnxd {p : Prop} (h : p := by (with_reducible repeat (first | refine blk_drewN ?_ _ | refine blk_drew ?_ | refine blk_alloc ?_ _)); exact (put6_0_6 qgo5)) : p := h
theorem qrkh {p : Prop} (h : p := by rw [hg]; exact Nat.ne_of_gt (blk_lt (g := gb239) (o := .cells #[.int .i64 0, .int .u64 0, .int .u32 0, .int .u64 0, .int .u32 0] 35 (0, 0)) qi4t)) : p := h
theorem qx41 {p : Prop} (h : p := by rw [hg]; exact Nat.ne_of_lt (blk_lt (g := gb239) (o := .cells #[.int .i64 0, .int .u64 0, .int .u32 0, .int .u64 0, .int .u32 0] 35 (0, 0)) qi4t)) : p := h
theorem qyj0 {p : Prop} (h : p := by (with_reducible repeat (first | refine blk_drewN ?_ _ | refine blk_drew ?_ | refine blk_alloc ?_ _ | refine blk_far ?_ NB238_239.out _)); exact put6_0_6 qlpn) : p := h
theorem qpfl {p : Prop} (h : p := by rw [hg]; exact Nat.ne_of_gt (blk_lt (g := gb238) (o := .cells #[.int .i64 0, .int .u32 0, .int .i64 0, .int .i64 0, .bool false, .string (⟨#[]⟩ : ByteArray)] 33 (0, 0)) qzq4)) : p := h
theorem qebs {p : Prop} (h : p := by rw [hg]; exact Nat.ne_of_lt (blk_lt (g := gb238) (o := .cells #[.int .i64 0, .int .u32 0, .int .i64 0, .int .i64 0, .bool false, .string (⟨#[]⟩ : ByteArray)] 33 (0, 0)) qzq4)) : p := h
theorem qb76 {p : Prop} (h : p := by rw [hg]; exact Nat.ne_of_gt (blk_lt (g := gb237) (o := .cells #[.int .u64 a2_0, .int .u64 a2_1, .bool a2_2, .int .i64 a2_3, .bool a2_4, .int .i64 a2_5, .int .i64 a2_6, .string a2_7] 29 (0, 0)) qhu9)) : p := h
theorem q5ze {p : Prop} (h : p := by rw [hg]; exact Nat.ne_of_lt (blk_lt (g := gb237) (o := .cells #[.int .u64 a2_0, .int .u64 a2_1, .bool a2_2, .int .i64 a2_3, .bool a2_4, .int .i64 a2_5, .int .i64 a2_6, .string a2_7] 29 (0, 0)) qhu9)) : p := h
theorem qi8x {p : Prop} (h : p := by rw [hg]; exact Nat.ne_of_gt (blk_lt (g := gb256) (o := .cells #[.int .i64 t249, .int .u32 t250, .int .i64 t251, .int .i64 t252, .bool t253, .string t254] 33 (0, 0)) qi42)) : p := h
theorem qbqy {p : Prop} (h : p := by rw [hg]; exact Nat.ne_of_lt (blk_lt (g := gb256) (o := .cells #[.int .i64 t249, .int .u32 t250, .int .i64 t251, .int .i64 t252, .bool t253, .string t254] 33 (0, 0)) qi42)) : p := h
/-! ### station_Take: function 8 -/
def station_Take.j0 : Nat → Int → Int → Bool → Int → Int → Bool → Int → Bool → Int → Int → ByteArray → Option (Int × Int × Int × Int × Bool × ByteArray × Int × Int × Int × Int × Int)
 | 0, _, _, _, _, _, _, _, _, _, _, _ => none
 | k + 1, x0, x1, x21, x238000, x238001, x238002, x238003, x238004, x238005, x238006, x238007 => if x21 = true then ((arp_Of.f k x238000 x238001 x238002 x238003 x238004 x238005 x238006 x238007).bind fun bt242 => (if bt242.2.2.2.2.2 = true then (some (1, 0, 0, 0, false, (⟨#[]⟩ : ByteArray), bt242.1, bt242.2.1, bt242.2.2.1, bt242.2.2.2.1, bt242.2.2.2.2.1)) else (some (3, 0, 0, 0, false, (⟨#[]⟩ : ByteArray), 0, 0, 0, 0, 0)))) else ((station_got.f k x0 x1 x238000 x238001 x238002 x238003 x238004 x238005 x238006 x238007).bind fun bt249 => ((errors_As.f bt249.2.2.2.2.2.2).bind fun bt258 => (if bt258.1 = true then (some (bt258.2, 0, 0, 0, false, (⟨#[]⟩ : ByteArray), 0, 0, 0, 0, 0)) else (some (bt249.1, bt249.2.1, bt249.2.2.1, bt249.2.2.2.1, bt249.2.2.2.2.1, bt249.2.2.2.2.2.1, 0, 0, 0, 0, 0)))))
def station_Take.f (k : Nat) (a0 : Int) (a1 : Int) (a2_0 : Int) (a2_1 : Int) (a2_2 : Bool) (a2_3 : Int) (a2_4 : Bool) (a2_5 : Int) (a2_6 : Int) (a2_7 : ByteArray) : Option (Int × Int × Int × Int × Bool × ByteArray × Int × Int × Int × Int × Int) := if a2_6 = 2054 then ((station_framed.f k a0 a2_0 a2_1 a2_2 a2_3 a2_4 a2_5 a2_6 a2_7).bind fun t240 => (if t240.isNone = true then (station_Take.j0 k a0 a1 true a2_0 a2_1 a2_2 a2_3 a2_4 a2_5 a2_6 a2_7) else (station_Take.j0 k a0 a1 false a2_0 a2_1 a2_2 a2_3 a2_4 a2_5 a2_6 a2_7))) else (station_Take.j0 k a0 a1 false a2_0 a2_1 a2_2 a2_3 a2_4 a2_5 a2_6 a2_7)
theorem station_Take.mono_l : ∀ k, (∀ y0 y1 y2 y3 y4 y5 y6 y7 y8 y9 y10, LeO (station_Take.j0 k y0 y1 y2 y3 y4 y5 y6 y7 y8 y9 y10) (station_Take.j0 (k + 1) y0 y1 y2 y3 y4 y5 y6 y7 y8 y9 y10))
 | 0 => fun _ _ _ _ _ _ _ _ _ _ _ r h => by simp [station_Take.j0] at h
 | k + 1 => by
  have ih0 := station_Take.mono_l k
  ·intro y0 y1 y2 y3 y4 y5 y6 y7 y8 y9 y10
   unfold station_Take.j0
   repeat' first
   | (with_reducible exact ih0 _ _ _ _ _ _ _ _ _ _ _)
   | (with_reducible exact arp_Of.mono _ _ _ _ _ _ _ _ _)
   | (with_reducible exact station_framed.mono _ _ _ _ _ _ _ _ _ _)
   | (with_reducible exact station_got.mono _ _ _ _ _ _ _ _ _ _ _)
   | (with_reducible exact LeO.refl _)
   | (with_reducible exact LeO.none _)
   | (with_reducible refine LeO.ite ?_ ?_)
   | (with_reducible refine LeO.bind ?_ (fun _ => ?_))
   | exact ih0 _ _ _ _ _ _ _ _ _ _ _
   | exact arp_Of.mono _ _ _ _ _ _ _ _ _
   | exact station_framed.mono _ _ _ _ _ _ _ _ _ _
   | exact station_got.mono _ _ _ _ _ _ _ _ _ _ _
   | exact LeO.none _
   | refine LeO.ite ?_ ?_
   | refine LeO.bind ?_ (fun _ => ?_)
theorem station_Take.mono : ∀ a0 a1 a2 a3 a4 a5 a6 a7 a8 a9 k, LeO (station_Take.f k a0 a1 a2 a3 a4 a5 a6 a7 a8 a9) (station_Take.f (k + 1) a0 a1 a2 a3 a4 a5 a6 a7 a8 a9) := by
 intro a0 a1 a2 a3 a4 a5 a6 a7 a8 a9 k
 have ih0 := station_Take.mono_l k
 unfold station_Take.f
 repeat' first
   | (with_reducible exact ih0 _ _ _ _ _ _ _ _ _ _ _)
   | (with_reducible exact arp_Of.mono _ _ _ _ _ _ _ _ _)
   | (with_reducible exact station_framed.mono _ _ _ _ _ _ _ _ _ _)
   | (with_reducible exact station_got.mono _ _ _ _ _ _ _ _ _ _ _)
   | (with_reducible exact LeO.refl _)
   | (with_reducible exact LeO.none _)
   | (with_reducible refine LeO.ite ?_ ?_)
   | (with_reducible refine LeO.bind ?_ (fun _ => ?_))
   | exact ih0 _ _ _ _ _ _ _ _ _ _ _
   | exact arp_Of.mono _ _ _ _ _ _ _ _ _
   | exact station_framed.mono _ _ _ _ _ _ _ _ _ _
   | exact station_got.mono _ _ _ _ _ _ _ _ _ _ _
   | exact LeO.none _
   | refine LeO.ite ?_ ?_
   | refine LeO.bind ?_ (fun _ => ?_)
set_option maxHeartbeats 8000000 in
set_option maxRecDepth 100000 in
theorem station_Take.calls (k : Nat) (a0 : Int) (a1 : Int) (a2_0 : Int) (a2_1 : Int) (a2_2 : Bool) (a2_3 : Int) (a2_4 : Bool) (a2_5 : Int) (a2_6 : Int) (a2_7 : ByteArray) (r1 : Int) (r2 : Int) (r3 : Int) (r4 : Int) (r5 : Bool) (r6 : ByteArray) (r7 : Int) (r8 : Int) (r9 : Int) (r10 : Int) (r11 : Int) (w : World) (hL : Laid w) (h : station_Take.f k a0 a1 a2_0 a2_1 a2_2 a2_3 a2_4 a2_5 a2_6 a2_7 = some (r1, r2, r3, r4, r5, r6, r7, r8, r9, r10, r11)) :
  Calls Tryd.prog 8 #[.int .u64 a0, .int .u32 a1, .agg #[.int .u64 a2_0, .int .u64 a2_1, .bool a2_2, .int .i64 a2_3, .bool a2_4, .int .i64 a2_5, .int .i64 a2_6, .string a2_7]] w fun e w' => e = .returned (.tuple #[.agg #[.int .i64 r1, .int .u32 r2, .int .i64 r3, .int .i64 r4, .bool r5, .string r6], .agg #[.int .i64 r7, .int .u64 r8, .int .u32 r9, .int .u64 r10, .int .u32 r11]]) ∧ Below w.heap.size w w' := by
 have HLD := Aside0.mk hL
 clear hL
 have hu29 := Tryd.underlying29
 have hu33 := Tryd.underlying33
 have hu35 := Tryd.underlying35
 have hu58 := Tryd.underlying58
 have hu51 := Tryd.underlying51
 have HB := Aside0.mk (Below.refl w.heap.size w)
 have H := h
 unfold station_Take.f at H
 clear h
 have HC4 := Aside0.mk H
 clear H
 go_enter Tryd.func8, Tryd.ntmps8
 go_upto_region 1 with (first | ((with_reducible refine gate_st (ty := 29) rfl ?_); refine storeC8 rfl rfl rfl rfl rfl qzw7 qr2c qg3m rfl ?_) | ((with_reducible refine gate_ld (ty := 29) rfl ?_); (try (with_reducible refine gate_gd rfl ?_; refine gate_guard q8ju ?_; dsimp only)); refine load_st rfl rfl rfl qzw7 qr2c Tryd.underlying29 rfl qg3m ?_; (try simp only [Act.put, List.setIfInBounds_toArray, List.set_cons_zero, List.set_cons_succ])) | ((with_reducible refine gate_st (ty := 33) rfl ?_); refine storeC6 rfl rfl rfl rfl rfl qzw7 qr2c qg3m rfl ?_) | ((with_reducible refine gate_ld (ty := 33) rfl ?_); (try (with_reducible refine gate_gd rfl ?_; refine gate_guard q8ju ?_; dsimp only)); refine load_st rfl rfl rfl qzw7 qr2c Tryd.underlying33 rfl qg3m ?_; (try simp only [Act.put, List.setIfInBounds_toArray, List.set_cons_zero, List.set_cons_succ])) | ((with_reducible refine gate_st (ty := 35) rfl ?_); refine storeC5 rfl rfl rfl rfl rfl qzw7 qr2c qg3m rfl ?_) | ((with_reducible refine gate_ld (ty := 35) rfl ?_); (try (with_reducible refine gate_gd rfl ?_; refine gate_guard q8ju ?_; dsimp only)); refine load_st rfl rfl rfl qzw7 qr2c Tryd.underlying35 rfl qg3m ?_; (try simp only [Act.put, List.setIfInBounds_toArray, List.set_cons_zero, List.set_cons_succ])) | ((with_reducible refine gate_dst (N := 5) rfl ?_); refine box_event qgcr (N := 5) qgcr (cs := #[.int .u64 a2_0, .int .u64 a2_1, .bool a2_2, .int .i64 a2_3, .bool a2_4, .int .i64 a2_5, .int .i64 a2_6, .string a2_7]) (t := 29) qlto ?_; intro gb237 hg w5 hbox hb; have BK237 := Aside0.mk (hbox); have GE237 := Aside0.mk ((qisx : w.heap.size ≤ gb237)); replace HB := Aside0.mk (below_step qpag hb); clear hb hbox hg) | ((with_reducible refine gate_dst (N := 6) rfl ?_); refine box_event qgcr (N := 6) qgcr (cs := #[.int .i64 0, .int .u32 0, .int .i64 0, .int .i64 0, .bool false, .string (⟨#[]⟩ : ByteArray)]) (t := 33) qlto ?_; intro gb238 hg w6 hbox hb; have BK238 := Aside0.mk (hbox); have GE238 := Aside0.mk ((by rw [hg]; exact (below_size qrzm) : w.heap.size ≤ gb238)); have NB237_238 := Aside0.mk ((qftt : gb237 ≠ gb238)); have NB238_237 := Aside0.mk ((qv9l : gb238 ≠ gb237)); replace BK237 := Aside0.mk (blk_below (g := gb237) q9n1 hb); replace HB := Aside0.mk (below_step qrzm hb); clear hb hbox hg) | ((with_reducible refine gate_dst (N := 7) rfl ?_); refine box_event qgcr (N := 7) qgcr (cs := #[.int .i64 0, .int .u64 0, .int .u32 0, .int .u64 0, .int .u32 0]) (t := 35) qlto ?_; intro gb239 hg w7 hbox hb; have BK239 := Aside0.mk (hbox); have GE239 := Aside0.mk ((by rw [hg]; exact (below_size q2zh) : w.heap.size ≤ gb239)); have NB237_239 := Aside0.mk ((qftt : gb237 ≠ gb239)); have NB239_237 := Aside0.mk ((qv9l : gb239 ≠ gb237)); have NB238_239 := Aside0.mk ((qltk : gb238 ≠ gb239)); have NB239_238 := Aside0.mk ((q0cv : gb239 ≠ gb238)); replace BK237 := Aside0.mk (blk_below (g := gb237) q9n1 hb); replace BK238 := Aside0.mk (blk_below (g := gb238) qlpn hb); replace HB := Aside0.mk (below_step q2zh hb); clear hb hbox hg))
 (try simp only [Act.put, List.setIfInBounds_toArray, List.set_cons_zero, List.set_cons_succ])
 go_cut [21] (fun v21 wc => ∃ (kq : Nat) (x21_3 : Bool), v21 = .bool x21_3 ∧ Aside0 (station_Take.j0 kq a0 a1 x21_3 a2_0 a2_1 a2_2 a2_3 a2_4 a2_5 a2_6 a2_7 = some (r1, r2, r3, r4, r5, r6, r7, r8, r9, r10, r11)) ∧ Aside0 (kq ≤ k) ∧ Aside0 (wc.heap[gb237]? = some (.cells #[.int .u64 a2_0, .int .u64 a2_1, .bool a2_2, .int .i64 a2_3, .bool a2_4, .int .i64 a2_5, .int .i64 a2_6, .string a2_7] 29 (0, 0))) ∧ Aside0 (wc.heap[gb238]? = some (.cells #[.int .i64 0, .int .u32 0, .int .i64 0, .int .i64 0, .bool false, .string (⟨#[]⟩ : ByteArray)] 33 (0, 0))) ∧ Aside0 (wc.heap[gb239]? = some (.cells #[.int .i64 0, .int .u64 0, .int .u32 0, .int .u64 0, .int .u32 0] 35 (0, 0))) ∧ Aside0 (Below w.heap.size w wc))
 case first =>
  have H := HC4.out
  clear HC4
  by_cases c8 : a2_6 = 2054
  ·rw [if_pos c8] at H
   have c8b0 : (a2_6 == 2054) = true := beq_iff_eq.mpr c8
   have c8b1 : (a2_6 != 2054) = false := bne_eq_false_iff_eq.mpr c8
   clear c8
   (first | rw [c8b0] | (simp only [i64_w, i32_w]; rw [c8b0]) | skip)
   replace H := Option.bind_eq_some_iff.mp H
   obtain ⟨t240, A90, H⟩ := H
   try dsimp only at H
   have A9 := Aside0.mk A90
   clear A90
   rcases t240 with _ | q241
   ·have H1 : (station_Take.j0 k a0 a1 true a2_0 a2_1 a2_2 a2_3 a2_4 a2_5 a2_6 a2_7) = some (r1, r2, r3, r4, r5, r6, r7, r8, r9, r10, r11) := by rw [if_pos (show (none : Option Int).isNone = true by rfl)] at H; exact H
    clear H
    have H := H1
    clear H1
    try simp only [errW_none, errW_some]
    have H' := Aside0.mk H
    clear H
    have hnb10 := NB237_238.out
    have hnc10 := NB238_237.out
    have hnb11 := NB237_239.out
    have hnc11 := NB239_237.out
    obtain ⟨hcz12_0, hcz12_1, hcz12_2, hcz12_3, hcz12_4, hcz12_5, hcz12_6, hcz12_7⟩ := cells8 BK237.out
    obtain ⟨hfz12_0, hfz12_1, hfz12_2, hfz12_3, hfz12_4, hfz12_5, hfz12_6, hfz12_7⟩ := frozen8 BK237.out
    go_wp2_with (first | ((with_reducible refine gate_st (ty := 29) rfl ?_); refine storeC8 rfl rfl rfl rfl rfl qzw7 qr2c qg3m rfl ?_) | ((with_reducible refine gate_ld (ty := 29) rfl ?_); (try (with_reducible refine gate_gd rfl ?_; refine gate_guard q8ju ?_; dsimp only)); refine load_st rfl rfl rfl qzw7 qr2c Tryd.underlying29 rfl qg3m ?_; (try simp only [Act.put, List.setIfInBounds_toArray, List.set_cons_zero, List.set_cons_succ])) | ((with_reducible refine gate_st (ty := 33) rfl ?_); refine storeC6 rfl rfl rfl rfl rfl qzw7 qr2c qg3m rfl ?_) | ((with_reducible refine gate_ld (ty := 33) rfl ?_); (try (with_reducible refine gate_gd rfl ?_; refine gate_guard q8ju ?_; dsimp only)); refine load_st rfl rfl rfl qzw7 qr2c Tryd.underlying33 rfl qg3m ?_; (try simp only [Act.put, List.setIfInBounds_toArray, List.set_cons_zero, List.set_cons_succ])) | ((with_reducible refine gate_st (ty := 35) rfl ?_); refine storeC5 rfl rfl rfl rfl rfl qzw7 qr2c qg3m rfl ?_) | ((with_reducible refine gate_ld (ty := 35) rfl ?_); (try (with_reducible refine gate_gd rfl ?_; refine gate_guard q8ju ?_; dsimp only)); refine load_st rfl rfl rfl qzw7 qr2c Tryd.underlying35 rfl qg3m ?_; (try simp only [Act.put, List.setIfInBounds_toArray, List.set_cons_zero, List.set_cons_succ])) | (go_at_call 13; (with_reducible refine (station_framed.calls k a0 a2_0 a2_1 a2_2 a2_3 a2_4 a2_5 a2_6 a2_7 none _ A9.out).mono ?_); rintro e w13 ⟨rfl, hb⟩; replace BK237 := Aside0.mk (blk_below (g := gb237) q9n1 hb); replace BK238 := Aside0.mk (blk_below (g := gb238) qlpn hb); replace BK239 := Aside0.mk (blk_below (g := gb239) qeco hb); replace HB := Aside0.mk (below_step qnhf hb); obtain ⟨hcy1_237_0, hcy1_237_1, hcy1_237_2, hcy1_237_3, hcy1_237_4, hcy1_237_5, hcy1_237_6, hcy1_237_7⟩ := cells8 BK237.out; (try clear hb); (try clear hb2); (try clear hk); (try clear hi); (try simp only [errW_none, errW_some])))
    go_meet
    case rel => exact ⟨_, (true), q8z4, H', ⟨qpfc⟩, ⟨q9n1⟩, ⟨qlpn⟩, ⟨qeco⟩, ⟨qnhf⟩⟩
   ·have H1 : (station_Take.j0 k a0 a1 false a2_0 a2_1 a2_2 a2_3 a2_4 a2_5 a2_6 a2_7) = some (r1, r2, r3, r4, r5, r6, r7, r8, r9, r10, r11) := by rw [if_neg (show ¬ (some q241).isNone = true by simp)] at H; exact H
    clear H
    have H := H1
    clear H1
    try simp only [errW_none, errW_some]
    have H' := Aside0.mk H
    clear H
    have hnb14 := NB237_238.out
    have hnc14 := NB238_237.out
    have hnb15 := NB237_239.out
    have hnc15 := NB239_237.out
    obtain ⟨hcz16_0, hcz16_1, hcz16_2, hcz16_3, hcz16_4, hcz16_5, hcz16_6, hcz16_7⟩ := cells8 BK237.out
    obtain ⟨hfz16_0, hfz16_1, hfz16_2, hfz16_3, hfz16_4, hfz16_5, hfz16_6, hfz16_7⟩ := frozen8 BK237.out
    go_wp2_with (first | ((with_reducible refine gate_st (ty := 29) rfl ?_); refine storeC8 rfl rfl rfl rfl rfl qzw7 qr2c qg3m rfl ?_) | ((with_reducible refine gate_ld (ty := 29) rfl ?_); (try (with_reducible refine gate_gd rfl ?_; refine gate_guard q8ju ?_; dsimp only)); refine load_st rfl rfl rfl qzw7 qr2c Tryd.underlying29 rfl qg3m ?_; (try simp only [Act.put, List.setIfInBounds_toArray, List.set_cons_zero, List.set_cons_succ])) | ((with_reducible refine gate_st (ty := 33) rfl ?_); refine storeC6 rfl rfl rfl rfl rfl qzw7 qr2c qg3m rfl ?_) | ((with_reducible refine gate_ld (ty := 33) rfl ?_); (try (with_reducible refine gate_gd rfl ?_; refine gate_guard q8ju ?_; dsimp only)); refine load_st rfl rfl rfl qzw7 qr2c Tryd.underlying33 rfl qg3m ?_; (try simp only [Act.put, List.setIfInBounds_toArray, List.set_cons_zero, List.set_cons_succ])) | ((with_reducible refine gate_st (ty := 35) rfl ?_); refine storeC5 rfl rfl rfl rfl rfl qzw7 qr2c qg3m rfl ?_) | ((with_reducible refine gate_ld (ty := 35) rfl ?_); (try (with_reducible refine gate_gd rfl ?_; refine gate_guard q8ju ?_; dsimp only)); refine load_st rfl rfl rfl qzw7 qr2c Tryd.underlying35 rfl qg3m ?_; (try simp only [Act.put, List.setIfInBounds_toArray, List.set_cons_zero, List.set_cons_succ])) | (go_at_call 13; (with_reducible refine (station_framed.calls k a0 a2_0 a2_1 a2_2 a2_3 a2_4 a2_5 a2_6 a2_7 (some q241) _ A9.out).mono ?_); rintro e w17 ⟨rfl, hb⟩; replace BK237 := Aside0.mk (blk_below (g := gb237) q9n1 hb); replace BK238 := Aside0.mk (blk_below (g := gb238) qlpn hb); replace BK239 := Aside0.mk (blk_below (g := gb239) qeco hb); replace HB := Aside0.mk (below_step qnhf hb); obtain ⟨hcy1_237_0, hcy1_237_1, hcy1_237_2, hcy1_237_3, hcy1_237_4, hcy1_237_5, hcy1_237_6, hcy1_237_7⟩ := cells8 BK237.out; (try clear hb); (try clear hb2); (try clear hk); (try clear hi); (try simp only [errW_none, errW_some])))
    go_meet
    case rel => exact ⟨_, (false), q8z4, H', ⟨qpfc⟩, ⟨q9n1⟩, ⟨qlpn⟩, ⟨qeco⟩, ⟨qnhf⟩⟩
  ·rw [if_neg c8] at H
   have c8b0 : (a2_6 == 2054) = false := beq_eq_false_iff_ne.mpr c8
   have c8b1 : (a2_6 != 2054) = true := bne_iff_ne.mpr c8
   (first | rw [c8b0] | (simp only [i64_w, i32_w]; rw [c8b0]) | skip)
   have H' := Aside0.mk H
   clear H
   have hnb18 := NB237_238.out
   have hnc18 := NB238_237.out
   have hnb19 := NB237_239.out
   have hnc19 := NB239_237.out
   obtain ⟨hcz20_0, hcz20_1, hcz20_2, hcz20_3, hcz20_4, hcz20_5, hcz20_6, hcz20_7⟩ := cells8 BK237.out
   obtain ⟨hfz20_0, hfz20_1, hfz20_2, hfz20_3, hfz20_4, hfz20_5, hfz20_6, hfz20_7⟩ := frozen8 BK237.out
   go_wp2_with (first | ((with_reducible refine gate_st (ty := 29) rfl ?_); refine storeC8 rfl rfl rfl rfl rfl qzw7 qr2c qg3m rfl ?_) | ((with_reducible refine gate_ld (ty := 29) rfl ?_); (try (with_reducible refine gate_gd rfl ?_; refine gate_guard q8ju ?_; dsimp only)); refine load_st rfl rfl rfl qzw7 qr2c Tryd.underlying29 rfl qg3m ?_; (try simp only [Act.put, List.setIfInBounds_toArray, List.set_cons_zero, List.set_cons_succ])) | ((with_reducible refine gate_st (ty := 33) rfl ?_); refine storeC6 rfl rfl rfl rfl rfl qzw7 qr2c qg3m rfl ?_) | ((with_reducible refine gate_ld (ty := 33) rfl ?_); (try (with_reducible refine gate_gd rfl ?_; refine gate_guard q8ju ?_; dsimp only)); refine load_st rfl rfl rfl qzw7 qr2c Tryd.underlying33 rfl qg3m ?_; (try simp only [Act.put, List.setIfInBounds_toArray, List.set_cons_zero, List.set_cons_succ])) | ((with_reducible refine gate_st (ty := 35) rfl ?_); refine storeC5 rfl rfl rfl rfl rfl qzw7 qr2c qg3m rfl ?_) | ((with_reducible refine gate_ld (ty := 35) rfl ?_); (try (with_reducible refine gate_gd rfl ?_; refine gate_guard q8ju ?_; dsimp only)); refine load_st rfl rfl rfl qzw7 qr2c Tryd.underlying35 rfl qg3m ?_; (try simp only [Act.put, List.setIfInBounds_toArray, List.set_cons_zero, List.set_cons_succ])) | go_in)
   go_meet
   case rel => exact ⟨_, (false), q8z4, H', ⟨qpfc⟩, ⟨q9n1⟩, ⟨qlpn⟩, ⟨qeco⟩, ⟨qnhf⟩⟩
 case rest =>
  clear HC4
  try clear c1
  try clear p2
  try clear q2
  try clear c8
  try clear c8b0
  try clear c8b1
  try clear c10
  try clear c11
  try clear c14
  try clear c15
  try clear c18
  try clear c19
  try clear q241
  obtain ⟨kq, x21_3, rfl, HA, HJ3, BK237, BK238, BK239, HB⟩ := hcut
  cases kq with
  | zero => exact absurd HA.out (by simp [station_Take.j0])
  | succ kj3 =>
   have H := HA.out
   clear HA
   simp only [station_Take.j0] at H
   by_cases c21 : x21_3 = true
   ·subst c21
    rw [if_pos rfl] at H
    replace H := Option.bind_eq_some_iff.mp H
    obtain ⟨⟨t242, t243, t244, t245, t246, t247⟩, A220, H⟩ := H
    try dsimp only at H
    have A22 := Aside0.mk A220
    clear A220
    by_cases c23 : t247 = true
    ·subst c23
     rw [if_pos rfl] at H
     simp only [Option.some.injEq, Prod.mk.injEq] at H
     obtain ⟨rfl, rfl, rfl, rfl, rfl, rfl, rfl, rfl, rfl, rfl, rfl⟩ := H
     have hnb24 := NB237_238.out
     have hnc24 := NB238_237.out
     have hnb25 := NB237_239.out
     have hnc25 := NB239_237.out
     obtain ⟨hcz26_0, hcz26_1, hcz26_2, hcz26_3, hcz26_4, hcz26_5, hcz26_6, hcz26_7⟩ := cells8 BK237.out
     obtain ⟨hfz26_0, hfz26_1, hfz26_2, hfz26_3, hfz26_4, hfz26_5, hfz26_6, hfz26_7⟩ := frozen8 BK237.out
     try go_wp2_with (first | ((with_reducible refine gate_st (ty := 29) rfl ?_); refine storeC8 rfl rfl rfl rfl rfl qzw7 qr2c qg3m rfl ?_) | ((with_reducible refine gate_ld (ty := 29) rfl ?_); (try (with_reducible refine gate_gd rfl ?_; refine gate_guard q8ju ?_; dsimp only)); refine load_st rfl rfl rfl qzw7 qr2c Tryd.underlying29 rfl qg3m ?_; (try simp only [Act.put, List.setIfInBounds_toArray, List.set_cons_zero, List.set_cons_succ])) | ((with_reducible refine gate_st (ty := 33) rfl ?_); refine storeC6 rfl rfl rfl rfl rfl qzw7 qr2c qg3m rfl ?_) | ((with_reducible refine gate_ld (ty := 33) rfl ?_); (try (with_reducible refine gate_gd rfl ?_; refine gate_guard q8ju ?_; dsimp only)); refine load_st rfl rfl rfl qzw7 qr2c Tryd.underlying33 rfl qg3m ?_; (try simp only [Act.put, List.setIfInBounds_toArray, List.set_cons_zero, List.set_cons_succ])) | ((with_reducible refine gate_st (ty := 35) rfl ?_); refine storeC5 rfl rfl rfl rfl rfl qzw7 qr2c qg3m rfl ?_) | ((with_reducible refine gate_ld (ty := 35) rfl ?_); (try (with_reducible refine gate_gd rfl ?_; refine gate_guard q8ju ?_; dsimp only)); refine load_st rfl rfl rfl qzw7 qr2c Tryd.underlying35 rfl qg3m ?_; (try simp only [Act.put, List.setIfInBounds_toArray, List.set_cons_zero, List.set_cons_succ])) | ((with_reducible refine gate_callee (f := 14) rfl ?_); refine goesL_ (some 24) rfl rfl Tryd.func14 qg3m rfl #[.agg #[.int .u64 a2_0, .int .u64 a2_1, .bool a2_2, .int .i64 a2_3, .bool a2_4, .int .i64 a2_5, .int .i64 a2_6, .string a2_7]] rfl qraq ?_; (with_reducible refine (arp_Of.calls kj3 a2_0 a2_1 a2_2 a2_3 a2_4 a2_5 a2_6 a2_7 t242 t243 t244 t245 t246 true _ A22.out).mono ?_); rintro e w27 ⟨rfl, hb⟩; refine ⟨_, rfl, ?_⟩; replace BK237 := Aside0.mk (blk_below (g := gb237) q9n1 hb); replace BK238 := Aside0.mk (blk_below (g := gb238) qlpn hb); replace BK239 := Aside0.mk (blk_below (g := gb239) qeco hb); replace HB := Aside0.mk (below_step qnhf hb); obtain ⟨hcy1_237_0, hcy1_237_1, hcy1_237_2, hcy1_237_3, hcy1_237_4, hcy1_237_5, hcy1_237_6, hcy1_237_7⟩ := cells8 BK237.out; (try clear hb); (try clear hb2); (try clear hk); (try clear hi)) | ((with_reducible refine gate_dst (N := 8) rfl ?_); refine box_event qgcr (N := 8) qgcr (cs := #[.int .i64 0, .int .u64 0, .int .u32 0, .int .u64 0, .int .u32 0]) (t := 35) qlto ?_; intro gb248 hg w28 hbox hb; have BK248 := Aside0.mk (hbox); have GE248 := Aside0.mk ((by rw [hg]; exact (below_size qnhf) : w.heap.size ≤ gb248)); have NB237_248 := Aside0.mk ((qftt : gb237 ≠ gb248)); have NB248_237 := Aside0.mk ((qv9l : gb248 ≠ gb237)); have NB238_248 := Aside0.mk ((qltk : gb238 ≠ gb248)); have NB248_238 := Aside0.mk ((q0cv : gb248 ≠ gb238)); have NB239_248 := Aside0.mk ((qnbi : gb239 ≠ gb248)); have NB248_239 := Aside0.mk ((q9ny : gb248 ≠ gb239)); replace BK237 := Aside0.mk (blk_below (g := gb237) q9n1 hb); replace BK238 := Aside0.mk (blk_below (g := gb238) qlpn hb); replace BK239 := Aside0.mk (blk_below (g := gb239) qeco hb); replace HB := Aside0.mk (below_step qnhf hb); obtain ⟨hcy2_237_0, hcy2_237_1, hcy2_237_2, hcy2_237_3, hcy2_237_4, hcy2_237_5, hcy2_237_6, hcy2_237_7⟩ := cells8 BK237.out; clear hb hbox hg; have hnb29 := NB248_237.out; have hnc29 := NB237_248.out; have hnb30 := NB248_238.out; have hnc30 := NB238_248.out; have hnb31 := NB248_239.out; have hnc31 := NB239_248.out; obtain ⟨hcz32_0, hcz32_1, hcz32_2, hcz32_3, hcz32_4⟩ := cells5 BK248.out; obtain ⟨hfz32_0, hfz32_1, hfz32_2, hfz32_3, hfz32_4⟩ := frozen5 BK248.out))
     have n0_ : Aside0 ((((((w28.setCell ⟨gb248, 0, none⟩ (.int .i64 t242)).setCell ⟨gb248, 1, none⟩ (.int .u64 t243)).setCell ⟨gb248, 2, none⟩ (.int .u32 t244)).setCell ⟨gb248, 3, none⟩ (.int .u64 t245)).setCell ⟨gb248, 4, none⟩ (.int .u32 t246)).heap[gb237]? = some (.cells #[.int .u64 a2_0, .int .u64 a2_1, .bool a2_2, .int .i64 a2_3, .bool a2_4, .int .i64 a2_5, .int .i64 a2_6, .string a2_7] 29 (0, 0))) := ⟨(by (with_reducible repeat (first | refine blk_drewN ?_ _ | refine blk_drew ?_ | refine blk_alloc ?_ _ | refine blk_far ?_ NB237_248.out _)); exact BK237.out)⟩
     have n1_ : Aside0 ((((((w28.setCell ⟨gb248, 0, none⟩ (.int .i64 t242)).setCell ⟨gb248, 1, none⟩ (.int .u64 t243)).setCell ⟨gb248, 2, none⟩ (.int .u32 t244)).setCell ⟨gb248, 3, none⟩ (.int .u64 t245)).setCell ⟨gb248, 4, none⟩ (.int .u32 t246)).heap[gb238]? = some (.cells #[.int .i64 0, .int .u32 0, .int .i64 0, .int .i64 0, .bool false, .string (⟨#[]⟩ : ByteArray)] 33 (0, 0))) := ⟨qjno⟩
     have n2_ : Aside0 ((((((w28.setCell ⟨gb248, 0, none⟩ (.int .i64 t242)).setCell ⟨gb248, 1, none⟩ (.int .u64 t243)).setCell ⟨gb248, 2, none⟩ (.int .u32 t244)).setCell ⟨gb248, 3, none⟩ (.int .u64 t245)).setCell ⟨gb248, 4, none⟩ (.int .u32 t246)).heap[gb239]? = some (.cells #[.int .i64 0, .int .u64 0, .int .u32 0, .int .u64 0, .int .u32 0] 35 (0, 0))) := ⟨(by (with_reducible repeat (first | refine blk_drewN ?_ _ | refine blk_drew ?_ | refine blk_alloc ?_ _ | refine blk_far ?_ NB239_248.out _)); exact BK239.out)⟩
     have n3_ : Aside0 ((((((w28.setCell ⟨gb248, 0, none⟩ (.int .i64 t242)).setCell ⟨gb248, 1, none⟩ (.int .u64 t243)).setCell ⟨gb248, 2, none⟩ (.int .u32 t244)).setCell ⟨gb248, 3, none⟩ (.int .u64 t245)).setCell ⟨gb248, 4, none⟩ (.int .u32 t246)).heap[gb248]? = some (.cells #[.int .i64 t242, .int .u64 t243, .int .u32 t244, .int .u64 t245, .int .u32 t246] 35 (0, 0))) := ⟨(by (with_reducible repeat (first | refine blk_drewN ?_ _ | refine blk_drew ?_ | refine blk_alloc ?_ _)); exact put5_0_5 (by (with_reducible repeat (first | refine blk_drewN ?_ _ | refine blk_drew ?_ | refine blk_alloc ?_ _)); exact BK248.out))⟩
     have n4_ : Aside0 (Below w.heap.size w (((((w28.setCell ⟨gb248, 0, none⟩ (.int .i64 t242)).setCell ⟨gb248, 1, none⟩ (.int .u64 t243)).setCell ⟨gb248, 2, none⟩ (.int .u32 t244)).setCell ⟨gb248, 3, none⟩ (.int .u64 t245)).setCell ⟨gb248, 4, none⟩ (.int .u32 t246))) := ⟨qn6f⟩
     (try clear BK237)
     (try clear BK238)
     (try clear BK239)
     (try clear BK248)
     (try clear HB)
     generalize (((((w28.setCell ⟨gb248, 0, none⟩ (.int .i64 t242)).setCell ⟨gb248, 1, none⟩ (.int .u64 t243)).setCell ⟨gb248, 2, none⟩ (.int .u32 t244)).setCell ⟨gb248, 3, none⟩ (.int .u64 t245)).setCell ⟨gb248, 4, none⟩ (.int .u32 t246)) = w33 at n0_ n1_ n2_ n3_ n4_ ⊢
     have BK237 := n0_
     have BK238 := n1_
     have BK239 := n2_
     have BK248 := n3_
     have HB := n4_
     clear n0_ n1_ n2_ n3_ n4_
     replace BK237 := Aside0.mk (blk_drew BK237.out)
     replace BK238 := Aside0.mk (blk_drew BK238.out)
     replace BK239 := Aside0.mk (blk_drew BK239.out)
     replace BK248 := Aside0.mk (blk_drew BK248.out)
     replace HB := Aside0.mk (below_drew1 HB.out)
     refine start_ (n := 4) (S := fun w' => w'.cell? ⟨gb248, 0, none⟩ = some (.int .i64 t242) ∧ w'.cell? ⟨gb248, 1, none⟩ = some (.int .u64 t243) ∧ w'.cell? ⟨gb248, 2, none⟩ = some (.int .u32 t244) ∧ w'.cell? ⟨gb248, 3, none⟩ = some (.int .u64 t245) ∧ w'.cell? ⟨gb248, 4, none⟩ = some (.int .u32 t246)) (ds := []) #[false, false, false, false] qg3m rfl rfl ⟨(blk_cell BK248.out 0).trans rfl, (blk_cell BK248.out 1).trans rfl, (blk_cell BK248.out 2).trans rfl, (blk_cell BK248.out 3).trans rfl, (blk_cell BK248.out 4).trans rfl⟩ (fun hHeld => ?_)
     generalize w33.drew = w34 at BK237 BK238 BK239 BK248 HB hHeld ⊢
     refine pu_49e (i := 0) (N := some 31) #[true, false, false, false] ?_
     refine tk_e63 (i := 1) (N := some 32) #[true, true, false, false] hHeld ?_
     refine one_ (i := 2) (N := none) #[true, true, true, false] rfl rfl qg3m qomw (fun K hK => ?_)
     have hs35 : w34.cell? ⟨gb238, 0, none⟩ = some (.int .i64 0) := (blk_cell BK238.out 0).trans rfl
     have hfs35 := blk_frozen BK238.out 0
     have hns35_0 := NB237_238.out
     have hns35_2 := NB239_238.out
     have hns35_3 := NB248_238.out
     have hms35_0 := NB238_237.out
     have hms35_2 := NB238_239.out
     have hms35_3 := NB238_248.out
     have hs36 : w34.cell? ⟨gb238, 1, none⟩ = some (.int .u32 0) := (blk_cell BK238.out 1).trans rfl
     have hfs36 := blk_frozen BK238.out 1
     have hns36_0 := NB237_238.out
     have hns36_2 := NB239_238.out
     have hns36_3 := NB248_238.out
     have hms36_0 := NB238_237.out
     have hms36_2 := NB238_239.out
     have hms36_3 := NB238_248.out
     have hs37 : w34.cell? ⟨gb238, 2, none⟩ = some (.int .i64 0) := (blk_cell BK238.out 2).trans rfl
     have hfs37 := blk_frozen BK238.out 2
     have hns37_0 := NB237_238.out
     have hns37_2 := NB239_238.out
     have hns37_3 := NB248_238.out
     have hms37_0 := NB238_237.out
     have hms37_2 := NB238_239.out
     have hms37_3 := NB238_248.out
     have hs38 : w34.cell? ⟨gb238, 3, none⟩ = some (.int .i64 0) := (blk_cell BK238.out 3).trans rfl
     have hfs38 := blk_frozen BK238.out 3
     have hns38_0 := NB237_238.out
     have hns38_2 := NB239_238.out
     have hns38_3 := NB248_238.out
     have hms38_0 := NB238_237.out
     have hms38_2 := NB238_239.out
     have hms38_3 := NB238_248.out
     have hs39 : w34.cell? ⟨gb238, 4, none⟩ = some (.bool false) := (blk_cell BK238.out 4).trans rfl
     have hfs39 := blk_frozen BK238.out 4
     have hns39_0 := NB237_238.out
     have hns39_2 := NB239_238.out
     have hns39_3 := NB248_238.out
     have hms39_0 := NB238_237.out
     have hms39_2 := NB238_239.out
     have hms39_3 := NB238_248.out
     have hs40 : w34.cell? ⟨gb238, 5, none⟩ = some (.string (⟨#[]⟩ : ByteArray)) := (blk_cell BK238.out 5).trans rfl
     have hfs40 := blk_frozen BK238.out 5
     have hns40_0 := NB237_238.out
     have hns40_2 := NB239_238.out
     have hns40_3 := NB248_238.out
     have hms40_0 := NB238_237.out
     have hms40_2 := NB238_239.out
     have hms40_3 := NB238_248.out
     refine skip_ (w1 := ?_) qgcr rfl ?_ ?_
     rotate_left
     ·go_simp
      rfl
     refine hK.out _ _ (by exact ⟨((cell_far (p := ⟨gb238, _, none⟩) NB248_238.out _).trans (((cell_far (p := ⟨gb238, _, none⟩) NB248_238.out _).trans (((cell_far (p := ⟨gb238, _, none⟩) NB248_238.out _).trans (((cell_far (p := ⟨gb238, _, none⟩) NB248_238.out _).trans (((cell_far (p := ⟨gb238, _, none⟩) NB248_238.out _).trans (((cell_far (p := ⟨gb238, _, none⟩) NB248_238.out _).trans (hHeld.1)))))))))))), ((cell_far (p := ⟨gb238, _, none⟩) NB248_238.out _).trans (((cell_far (p := ⟨gb238, _, none⟩) NB248_238.out _).trans (((cell_far (p := ⟨gb238, _, none⟩) NB248_238.out _).trans (((cell_far (p := ⟨gb238, _, none⟩) NB248_238.out _).trans (((cell_far (p := ⟨gb238, _, none⟩) NB248_238.out _).trans (((cell_far (p := ⟨gb238, _, none⟩) NB248_238.out _).trans (hHeld.2.1)))))))))))), ((cell_far (p := ⟨gb238, _, none⟩) NB248_238.out _).trans (((cell_far (p := ⟨gb238, _, none⟩) NB248_238.out _).trans (((cell_far (p := ⟨gb238, _, none⟩) NB248_238.out _).trans (((cell_far (p := ⟨gb238, _, none⟩) NB248_238.out _).trans (((cell_far (p := ⟨gb238, _, none⟩) NB248_238.out _).trans (((cell_far (p := ⟨gb238, _, none⟩) NB248_238.out _).trans (hHeld.2.2.1)))))))))))), ((cell_far (p := ⟨gb238, _, none⟩) NB248_238.out _).trans (((cell_far (p := ⟨gb238, _, none⟩) NB248_238.out _).trans (((cell_far (p := ⟨gb238, _, none⟩) NB248_238.out _).trans (((cell_far (p := ⟨gb238, _, none⟩) NB248_238.out _).trans (((cell_far (p := ⟨gb238, _, none⟩) NB248_238.out _).trans (((cell_far (p := ⟨gb238, _, none⟩) NB248_238.out _).trans (hHeld.2.2.2.1)))))))))))), ((cell_far (p := ⟨gb238, _, none⟩) NB248_238.out _).trans (((cell_far (p := ⟨gb238, _, none⟩) NB248_238.out _).trans (((cell_far (p := ⟨gb238, _, none⟩) NB248_238.out _).trans (((cell_far (p := ⟨gb238, _, none⟩) NB248_238.out _).trans (((cell_far (p := ⟨gb238, _, none⟩) NB248_238.out _).trans (((cell_far (p := ⟨gb238, _, none⟩) NB248_238.out _).trans (hHeld.2.2.2.2))))))))))))⟩) (fun hHeld => ?_)
     clear hK K
     refine one_ (i := 3) (N := none) #[true, true, true, true] rfl rfl qg3m qomw (fun K hK => ?_)
     have hs41 : w34.cell? ⟨gb239, 0, none⟩ = some (.int .i64 0) := (blk_cell BK239.out 0).trans rfl
     have hfs41 := blk_frozen BK239.out 0
     have hns41_0 := NB237_239.out
     have hns41_1 := NB238_239.out
     have hns41_3 := NB248_239.out
     have hms41_0 := NB239_237.out
     have hms41_1 := NB239_238.out
     have hms41_3 := NB239_248.out
     have hs42 : w34.cell? ⟨gb239, 1, none⟩ = some (.int .u64 0) := (blk_cell BK239.out 1).trans rfl
     have hfs42 := blk_frozen BK239.out 1
     have hns42_0 := NB237_239.out
     have hns42_1 := NB238_239.out
     have hns42_3 := NB248_239.out
     have hms42_0 := NB239_237.out
     have hms42_1 := NB239_238.out
     have hms42_3 := NB239_248.out
     have hs43 : w34.cell? ⟨gb239, 2, none⟩ = some (.int .u32 0) := (blk_cell BK239.out 2).trans rfl
     have hfs43 := blk_frozen BK239.out 2
     have hns43_0 := NB237_239.out
     have hns43_1 := NB238_239.out
     have hns43_3 := NB248_239.out
     have hms43_0 := NB239_237.out
     have hms43_1 := NB239_238.out
     have hms43_3 := NB239_248.out
     have hs44 : w34.cell? ⟨gb239, 3, none⟩ = some (.int .u64 0) := (blk_cell BK239.out 3).trans rfl
     have hfs44 := blk_frozen BK239.out 3
     have hns44_0 := NB237_239.out
     have hns44_1 := NB238_239.out
     have hns44_3 := NB248_239.out
     have hms44_0 := NB239_237.out
     have hms44_1 := NB239_238.out
     have hms44_3 := NB239_248.out
     have hs45 : w34.cell? ⟨gb239, 4, none⟩ = some (.int .u32 0) := (blk_cell BK239.out 4).trans rfl
     have hfs45 := blk_frozen BK239.out 4
     have hns45_0 := NB237_239.out
     have hns45_1 := NB238_239.out
     have hns45_3 := NB248_239.out
     have hms45_0 := NB239_237.out
     have hms45_1 := NB239_238.out
     have hms45_3 := NB239_248.out
     refine skip_ (w1 := ?_) qgcr rfl ?_ ?_
     rotate_left
     ·go_simp
      rfl
     refine hK.out _ _ (by exact ⟨((cell_far (p := ⟨gb239, _, none⟩) NB248_239.out _).trans (((cell_far (p := ⟨gb239, _, none⟩) NB248_239.out _).trans (((cell_far (p := ⟨gb239, _, none⟩) NB248_239.out _).trans (((cell_far (p := ⟨gb239, _, none⟩) NB248_239.out _).trans (((cell_far (p := ⟨gb239, _, none⟩) NB248_239.out _).trans (hHeld.1)))))))))), ((cell_far (p := ⟨gb239, _, none⟩) NB248_239.out _).trans (((cell_far (p := ⟨gb239, _, none⟩) NB248_239.out _).trans (((cell_far (p := ⟨gb239, _, none⟩) NB248_239.out _).trans (((cell_far (p := ⟨gb239, _, none⟩) NB248_239.out _).trans (((cell_far (p := ⟨gb239, _, none⟩) NB248_239.out _).trans (hHeld.2.1)))))))))), ((cell_far (p := ⟨gb239, _, none⟩) NB248_239.out _).trans (((cell_far (p := ⟨gb239, _, none⟩) NB248_239.out _).trans (((cell_far (p := ⟨gb239, _, none⟩) NB248_239.out _).trans (((cell_far (p := ⟨gb239, _, none⟩) NB248_239.out _).trans (((cell_far (p := ⟨gb239, _, none⟩) NB248_239.out _).trans (hHeld.2.2.1)))))))))), ((cell_far (p := ⟨gb239, _, none⟩) NB248_239.out _).trans (((cell_far (p := ⟨gb239, _, none⟩) NB248_239.out _).trans (((cell_far (p := ⟨gb239, _, none⟩) NB248_239.out _).trans (((cell_far (p := ⟨gb239, _, none⟩) NB248_239.out _).trans (((cell_far (p := ⟨gb239, _, none⟩) NB248_239.out _).trans (hHeld.2.2.2.1)))))))))), ((cell_far (p := ⟨gb239, _, none⟩) NB248_239.out _).trans (((cell_far (p := ⟨gb239, _, none⟩) NB248_239.out _).trans (((cell_far (p := ⟨gb239, _, none⟩) NB248_239.out _).trans (((cell_far (p := ⟨gb239, _, none⟩) NB248_239.out _).trans (((cell_far (p := ⟨gb239, _, none⟩) NB248_239.out _).trans (hHeld.2.2.2.2))))))))))⟩) (fun hHeld => ?_)
     clear hK K
     refine done_ qg3m ?_
     try go_wp2_with (first | ((with_reducible refine gate_st (ty := 29) rfl ?_); refine storeC8 rfl rfl rfl rfl rfl qzw7 qr2c qg3m rfl ?_) | ((with_reducible refine gate_ld (ty := 29) rfl ?_); (try (with_reducible refine gate_gd rfl ?_; refine gate_guard q8ju ?_; dsimp only)); refine load_st rfl rfl rfl qzw7 qr2c Tryd.underlying29 rfl qg3m ?_; (try simp only [Act.put, List.setIfInBounds_toArray, List.set_cons_zero, List.set_cons_succ])) | ((with_reducible refine gate_st (ty := 33) rfl ?_); refine storeC6 rfl rfl rfl rfl rfl qzw7 qr2c qg3m rfl ?_) | ((with_reducible refine gate_ld (ty := 33) rfl ?_); (try (with_reducible refine gate_gd rfl ?_; refine gate_guard q8ju ?_; dsimp only)); refine load_st rfl rfl rfl qzw7 qr2c Tryd.underlying33 rfl qg3m ?_; (try simp only [Act.put, List.setIfInBounds_toArray, List.set_cons_zero, List.set_cons_succ])) | ((with_reducible refine gate_st (ty := 35) rfl ?_); refine storeC5 rfl rfl rfl rfl rfl qzw7 qr2c qg3m rfl ?_) | ((with_reducible refine gate_ld (ty := 35) rfl ?_); (try (with_reducible refine gate_gd rfl ?_; refine gate_guard q8ju ?_; dsimp only)); refine load_st rfl rfl rfl qzw7 qr2c Tryd.underlying35 rfl qg3m ?_; (try simp only [Act.put, List.setIfInBounds_toArray, List.set_cons_zero, List.set_cons_succ])) | go_in)
     refine bodyPost_ret (results_cc rfl _ _ gb238 gb239 33 35 #[.int .i64 1, .int .u32 0, .int .i64 0, .int .i64 0, .bool false, .string (⟨#[]⟩ : ByteArray)] #[.int .i64 t242, .int .u64 t243, .int .u32 t244, .int .u64 t245, .int .u32 t246] (0, 0) (0, 0) _ _ rfl qyj0 Tryd.underlying33 rfl qg3m rfl q5uv Tryd.underlying35 rfl qg3m) rfl ?_
     exact ⟨qxu5, qn6f⟩
    ·replace c23 := Bool.eq_false_iff.mpr c23
     subst c23
     rw [if_neg (show ¬ (false = true) by decide)] at H
     simp only [Option.some.injEq, Prod.mk.injEq] at H
     obtain ⟨rfl, rfl, rfl, rfl, rfl, rfl, rfl, rfl, rfl, rfl, rfl⟩ := H
     have hnb46 := NB237_238.out
     have hnc46 := NB238_237.out
     have hnb47 := NB237_239.out
     have hnc47 := NB239_237.out
     obtain ⟨hcz48_0, hcz48_1, hcz48_2, hcz48_3, hcz48_4, hcz48_5, hcz48_6, hcz48_7⟩ := cells8 BK237.out
     obtain ⟨hfz48_0, hfz48_1, hfz48_2, hfz48_3, hfz48_4, hfz48_5, hfz48_6, hfz48_7⟩ := frozen8 BK237.out
     go_wp2_with (first | ((with_reducible refine gate_st (ty := 29) rfl ?_); refine storeC8 rfl rfl rfl rfl rfl qzw7 qr2c qg3m rfl ?_) | ((with_reducible refine gate_ld (ty := 29) rfl ?_); (try (with_reducible refine gate_gd rfl ?_; refine gate_guard q8ju ?_; dsimp only)); refine load_st rfl rfl rfl qzw7 qr2c Tryd.underlying29 rfl qg3m ?_; (try simp only [Act.put, List.setIfInBounds_toArray, List.set_cons_zero, List.set_cons_succ])) | ((with_reducible refine gate_st (ty := 33) rfl ?_); refine storeC6 rfl rfl rfl rfl rfl qzw7 qr2c qg3m rfl ?_) | ((with_reducible refine gate_ld (ty := 33) rfl ?_); (try (with_reducible refine gate_gd rfl ?_; refine gate_guard q8ju ?_; dsimp only)); refine load_st rfl rfl rfl qzw7 qr2c Tryd.underlying33 rfl qg3m ?_; (try simp only [Act.put, List.setIfInBounds_toArray, List.set_cons_zero, List.set_cons_succ])) | ((with_reducible refine gate_st (ty := 35) rfl ?_); refine storeC5 rfl rfl rfl rfl rfl qzw7 qr2c qg3m rfl ?_) | ((with_reducible refine gate_ld (ty := 35) rfl ?_); (try (with_reducible refine gate_gd rfl ?_; refine gate_guard q8ju ?_; dsimp only)); refine load_st rfl rfl rfl qzw7 qr2c Tryd.underlying35 rfl qg3m ?_; (try simp only [Act.put, List.setIfInBounds_toArray, List.set_cons_zero, List.set_cons_succ])) | ((with_reducible refine gate_callee (f := 14) rfl ?_); refine goesL_ (some 24) rfl rfl Tryd.func14 qg3m rfl #[.agg #[.int .u64 a2_0, .int .u64 a2_1, .bool a2_2, .int .i64 a2_3, .bool a2_4, .int .i64 a2_5, .int .i64 a2_6, .string a2_7]] rfl qraq ?_; (with_reducible refine (arp_Of.calls kj3 a2_0 a2_1 a2_2 a2_3 a2_4 a2_5 a2_6 a2_7 t242 t243 t244 t245 t246 false _ A22.out).mono ?_); rintro e w49 ⟨rfl, hb⟩; refine ⟨_, rfl, ?_⟩; replace BK237 := Aside0.mk (blk_below (g := gb237) q9n1 hb); replace BK238 := Aside0.mk (blk_below (g := gb238) qlpn hb); replace BK239 := Aside0.mk (blk_below (g := gb239) qeco hb); replace HB := Aside0.mk (below_step qnhf hb); obtain ⟨hcy1_237_0, hcy1_237_1, hcy1_237_2, hcy1_237_3, hcy1_237_4, hcy1_237_5, hcy1_237_6, hcy1_237_7⟩ := cells8 BK237.out; (try clear hb); (try clear hb2); (try clear hk); (try clear hi)) | ((with_reducible refine gate_dst (N := 8) rfl ?_); refine box_event qgcr (N := 8) qgcr (cs := #[.int .i64 0, .int .u64 0, .int .u32 0, .int .u64 0, .int .u32 0]) (t := 35) qlto ?_; intro gb248 hg w50 hbox hb; have BK248 := Aside0.mk (hbox); have GE248 := Aside0.mk ((by rw [hg]; exact (below_size qnhf) : w.heap.size ≤ gb248)); have NB237_248 := Aside0.mk ((qftt : gb237 ≠ gb248)); have NB248_237 := Aside0.mk ((qv9l : gb248 ≠ gb237)); have NB238_248 := Aside0.mk ((qltk : gb238 ≠ gb248)); have NB248_238 := Aside0.mk ((q0cv : gb248 ≠ gb238)); have NB239_248 := Aside0.mk ((qnbi : gb239 ≠ gb248)); have NB248_239 := Aside0.mk ((q9ny : gb248 ≠ gb239)); replace BK237 := Aside0.mk (blk_below (g := gb237) q9n1 hb); replace BK238 := Aside0.mk (blk_below (g := gb238) qlpn hb); replace BK239 := Aside0.mk (blk_below (g := gb239) qeco hb); replace HB := Aside0.mk (below_step qnhf hb); obtain ⟨hcy2_237_0, hcy2_237_1, hcy2_237_2, hcy2_237_3, hcy2_237_4, hcy2_237_5, hcy2_237_6, hcy2_237_7⟩ := cells8 BK237.out; clear hb hbox hg; have hnb51 := NB248_237.out; have hnc51 := NB237_248.out; have hnb52 := NB248_238.out; have hnc52 := NB238_248.out; have hnb53 := NB248_239.out; have hnc53 := NB239_248.out; obtain ⟨hcz54_0, hcz54_1, hcz54_2, hcz54_3, hcz54_4⟩ := cells5 BK248.out; obtain ⟨hfz54_0, hfz54_1, hfz54_2, hfz54_3, hfz54_4⟩ := frozen5 BK248.out; have hnb55 := NB238_239.out; have hnc55 := NB239_238.out; obtain ⟨hcz56_0, hcz56_1, hcz56_2, hcz56_3, hcz56_4, hcz56_5⟩ := cells6 BK238.out; obtain ⟨hfz56_0, hfz56_1, hfz56_2, hfz56_3, hfz56_4, hfz56_5⟩ := frozen6 BK238.out; obtain ⟨hcz57_0, hcz57_1, hcz57_2, hcz57_3, hcz57_4⟩ := cells5 BK239.out; obtain ⟨hfz57_0, hfz57_1, hfz57_2, hfz57_3, hfz57_4⟩ := frozen5 BK239.out))
     refine bodyPost_ret (results_cc rfl _ _ gb238 gb239 33 35 #[.int .i64 3, .int .u32 0, .int .i64 0, .int .i64 0, .bool false, .string (⟨#[]⟩ : ByteArray)] #[.int .i64 0, .int .u64 0, .int .u32 0, .int .u64 0, .int .u32 0] (0, 0) (0, 0) _ _ rfl (by (with_reducible repeat (first | refine blk_drewN ?_ _ | refine blk_drew ?_ | refine blk_alloc ?_ _ | refine blk_far ?_ NB238_239.out _)); exact put6_0_6 qjno) Tryd.underlying33 rfl qg3m rfl (by (with_reducible repeat (first | refine blk_drewN ?_ _ | refine blk_drew ?_ | refine blk_alloc ?_ _)); exact put5_0_5 (by (with_reducible repeat (first | refine blk_drewN ?_ _ | refine blk_drew ?_ | refine blk_alloc ?_ _ | refine blk_far ?_ NB239_238.out _ | refine blk_far ?_ NB239_248.out _)); exact BK239.out)) Tryd.underlying35 rfl qg3m) rfl ?_
     exact ⟨qxu5, qn6f⟩
   ·replace c21 := Bool.eq_false_iff.mpr c21
    subst c21
    rw [if_neg (show ¬ (false = true) by decide)] at H
    replace H := Option.bind_eq_some_iff.mp H
    obtain ⟨⟨t249, t250, t251, t252, t253, t254, t255⟩, A580, H⟩ := H
    try dsimp only at H
    have A58 := Aside0.mk A580
    clear A580
    replace H := Option.bind_eq_some_iff.mp H
    obtain ⟨⟨t258, t259⟩, A590, H⟩ := H
    try dsimp only at H
    have A59 := Aside0.mk A590
    clear A590
    by_cases c60 : t258 = true
    ·subst c60
     rw [if_pos rfl] at H
     simp only [Option.some.injEq, Prod.mk.injEq] at H
     obtain ⟨rfl, rfl, rfl, rfl, rfl, rfl, rfl, rfl, rfl, rfl, rfl⟩ := H
     have hnb61 := NB237_238.out
     have hnc61 := NB238_237.out
     have hnb62 := NB237_239.out
     have hnc62 := NB239_237.out
     obtain ⟨hcz63_0, hcz63_1, hcz63_2, hcz63_3, hcz63_4, hcz63_5, hcz63_6, hcz63_7⟩ := cells8 BK237.out
     obtain ⟨hfz63_0, hfz63_1, hfz63_2, hfz63_3, hfz63_4, hfz63_5, hfz63_6, hfz63_7⟩ := frozen8 BK237.out
     go_wp2_with (first | ((with_reducible refine gate_st (ty := 29) rfl ?_); refine storeC8 rfl rfl rfl rfl rfl qzw7 qr2c qg3m rfl ?_) | ((with_reducible refine gate_ld (ty := 29) rfl ?_); (try (with_reducible refine gate_gd rfl ?_; refine gate_guard q8ju ?_; dsimp only)); refine load_st rfl rfl rfl qzw7 qr2c Tryd.underlying29 rfl qg3m ?_; (try simp only [Act.put, List.setIfInBounds_toArray, List.set_cons_zero, List.set_cons_succ])) | ((with_reducible refine gate_st (ty := 33) rfl ?_); refine storeC6 rfl rfl rfl rfl rfl qzw7 qr2c qg3m rfl ?_) | ((with_reducible refine gate_ld (ty := 33) rfl ?_); (try (with_reducible refine gate_gd rfl ?_; refine gate_guard q8ju ?_; dsimp only)); refine load_st rfl rfl rfl qzw7 qr2c Tryd.underlying33 rfl qg3m ?_; (try simp only [Act.put, List.setIfInBounds_toArray, List.set_cons_zero, List.set_cons_succ])) | ((with_reducible refine gate_st (ty := 35) rfl ?_); refine storeC5 rfl rfl rfl rfl rfl qzw7 qr2c qg3m rfl ?_) | ((with_reducible refine gate_ld (ty := 35) rfl ?_); (try (with_reducible refine gate_gd rfl ?_; refine gate_guard q8ju ?_; dsimp only)); refine load_st rfl rfl rfl qzw7 qr2c Tryd.underlying35 rfl qg3m ?_; (try simp only [Act.put, List.setIfInBounds_toArray, List.set_cons_zero, List.set_cons_succ])) | ((with_reducible refine gate_callee (f := 15) rfl ?_); refine goesL_ (some 37) rfl rfl Tryd.func15 qg3m rfl #[.int .u64 a0, .int .u32 a1, .agg #[.int .u64 a2_0, .int .u64 a2_1, .bool a2_2, .int .i64 a2_3, .bool a2_4, .int .i64 a2_5, .int .i64 a2_6, .string a2_7]] rfl qraq ?_; (with_reducible refine (station_got.calls kj3 a0 a1 a2_0 a2_1 a2_2 a2_3 a2_4 a2_5 a2_6 a2_7 t249 t250 t251 t252 t253 t254 t255 _ ?sideL A58.out).mono ?_); (case sideL => exact laid_below HLD.out qnhf); rintro e w64 ⟨rfl, hb⟩; refine ⟨_, rfl, ?_⟩; replace BK237 := Aside0.mk (blk_below (g := gb237) q9n1 hb); replace BK238 := Aside0.mk (blk_below (g := gb238) qlpn hb); replace BK239 := Aside0.mk (blk_below (g := gb239) qeco hb); replace HB := Aside0.mk (below_step qnhf hb); obtain ⟨hcy1_237_0, hcy1_237_1, hcy1_237_2, hcy1_237_3, hcy1_237_4, hcy1_237_5, hcy1_237_6, hcy1_237_7⟩ := cells8 BK237.out; (try clear hb); (try clear hb2); (try clear hk); (try clear hi); (try simp only [errW_none, errW_some])) | ((with_reducible refine gate_dst (N := 10) rfl ?_); refine box_event qgcr (N := 10) qgcr (cs := #[.int .i64 0, .int .u32 0, .int .i64 0, .int .i64 0, .bool false, .string (⟨#[]⟩ : ByteArray)]) (t := 33) qlto ?_; intro gb256 hg w65 hbox hb; have BK256 := Aside0.mk (hbox); have GE256 := Aside0.mk ((by rw [hg]; exact (below_size qnhf) : w.heap.size ≤ gb256)); have NB237_256 := Aside0.mk ((qftt : gb237 ≠ gb256)); have NB256_237 := Aside0.mk ((qv9l : gb256 ≠ gb237)); have NB238_256 := Aside0.mk ((qltk : gb238 ≠ gb256)); have NB256_238 := Aside0.mk ((q0cv : gb256 ≠ gb238)); have NB239_256 := Aside0.mk ((qnbi : gb239 ≠ gb256)); have NB256_239 := Aside0.mk ((q9ny : gb256 ≠ gb239)); replace BK237 := Aside0.mk (blk_below (g := gb237) q9n1 hb); replace BK238 := Aside0.mk (blk_below (g := gb238) qlpn hb); replace BK239 := Aside0.mk (blk_below (g := gb239) qeco hb); replace HB := Aside0.mk (below_step qnhf hb); obtain ⟨hcy2_237_0, hcy2_237_1, hcy2_237_2, hcy2_237_3, hcy2_237_4, hcy2_237_5, hcy2_237_6, hcy2_237_7⟩ := cells8 BK237.out; clear hb hbox hg; have hnb66 := NB256_237.out; have hnc66 := NB237_256.out; have hnb67 := NB256_238.out; have hnc67 := NB238_256.out; have hnb68 := NB256_239.out; have hnc68 := NB239_256.out; obtain ⟨hcz69_0, hcz69_1, hcz69_2, hcz69_3, hcz69_4, hcz69_5⟩ := cells6 BK256.out; obtain ⟨hfz69_0, hfz69_1, hfz69_2, hfz69_3, hfz69_4, hfz69_5⟩ := frozen6 BK256.out) | ((with_reducible refine gate_dst (N := 12) rfl ?_); refine box_event qgcr (N := 12) qgcr (cs := #[.int .i64 0]) (t := 58) qlto ?_; intro gb257 hg w70 hbox hb; have BK257 := Aside0.mk (hbox); have GE257 := Aside0.mk ((by rw [hg]; exact (below_size q5zg) : w.heap.size ≤ gb257)); have NB237_257 := Aside0.mk ((q5ze : gb237 ≠ gb257)); have NB257_237 := Aside0.mk ((qb76 : gb257 ≠ gb237)); have NB238_257 := Aside0.mk ((qebs : gb238 ≠ gb257)); have NB257_238 := Aside0.mk ((qpfl : gb257 ≠ gb238)); have NB239_257 := Aside0.mk ((qx41 : gb239 ≠ gb257)); have NB257_239 := Aside0.mk ((qrkh : gb257 ≠ gb239)); have NB256_257 := Aside0.mk ((qbqy : gb256 ≠ gb257)); have NB257_256 := Aside0.mk ((qi8x : gb257 ≠ gb256)); replace BK237 := Aside0.mk (blk_below (g := gb237) (o := .cells #[.int .u64 a2_0, .int .u64 a2_1, .bool a2_2, .int .i64 a2_3, .bool a2_4, .int .i64 a2_5, .int .i64 a2_6, .string a2_7] 29 (0, 0)) qhu9 hb); replace BK238 := Aside0.mk (blk_below (g := gb238) (o := .cells #[.int .i64 0, .int .u32 0, .int .i64 0, .int .i64 0, .bool false, .string (⟨#[]⟩ : ByteArray)] 33 (0, 0)) qzq4 hb); replace BK239 := Aside0.mk (blk_below (g := gb239) (o := .cells #[.int .i64 0, .int .u64 0, .int .u32 0, .int .u64 0, .int .u32 0] 35 (0, 0)) qi4t hb); replace BK256 := Aside0.mk (blk_below (g := gb256) (o := .cells #[.int .i64 t249, .int .u32 t250, .int .i64 t251, .int .i64 t252, .bool t253, .string t254] 33 (0, 0)) qnxd hb); replace HB := Aside0.mk (below_step q5zg hb); obtain ⟨hcy3_237_0, hcy3_237_1, hcy3_237_2, hcy3_237_3, hcy3_237_4, hcy3_237_5, hcy3_237_6, hcy3_237_7⟩ := cells8 BK237.out; clear hb hbox hg; have CA59 := fun W hL_ hc_ hf_ => errors_As.hit gb257 t255 t259 W hL_ hc_ hf_ A59.out; try simp only [errW_none, errW_some] at CA59) | (go_at_call 16; (with_reducible refine (CA59 _ ?sideL ?sideC ?sideF).mono ?_); (case sideC => exact (blk_cell qu7k 0).trans rfl); (case sideF => exact blk_frozen qu7k 0); (case sideL => exact laid_below HLD.out qq0k); rintro e w_ ⟨rfl, w71, hb, rfl⟩; have n0_ := Aside0.mk (blk_below (g := gb237) q9n1 hb); have n1_ := Aside0.mk (blk_below (g := gb238) qlpn hb); have n2_ := Aside0.mk (blk_below (g := gb239) qeco hb); have n3_ := Aside0.mk (blk_below (g := gb256) qgo5 hb); have n4_ := Aside0.mk (blk_below (g := gb257) qu7k hb); have n5_ := Aside0.mk (below_step qq0k hb); clear BK237; clear BK238; clear BK239; clear BK256; clear BK257; clear HB; have BK237 := n0_; have BK238 := n1_; have BK239 := n2_; have BK256 := n3_; have BK257 := n4_; have hcq0_ : w71.cell? ⟨gb257, 0, none⟩ = some (.int .i64 0) := (blk_cell BK257.out 0).trans rfl; have hcq1_ : (w71.setCell ⟨gb257, 0, none⟩ (.int .i64 t259)).cell? ⟨gb257, 0, none⟩ = some (.int .i64 t259) := (blk_cell (blk_put (cs' := #[.int .i64 t259]) BK257.out 0 (.int .i64 t259) rfl) 0).trans rfl; have HB := n5_; clear n0_ n1_ n2_ n3_ n4_ n5_; obtain ⟨hcy4_237_0, hcy4_237_1, hcy4_237_2, hcy4_237_3, hcy4_237_4, hcy4_237_5, hcy4_237_6, hcy4_237_7⟩ := cells8 BK237.out; (try clear hb); (try clear hb2); (try clear hk); (try clear hi); have hnb72 := NB238_239.out; have hnc72 := NB239_238.out; have hnb73 := NB238_257.out; have hnc73 := NB257_238.out; obtain ⟨hcz74_0, hcz74_1, hcz74_2, hcz74_3, hcz74_4, hcz74_5⟩ := cells6 BK238.out; obtain ⟨hfz74_0, hfz74_1, hfz74_2, hfz74_3, hfz74_4, hfz74_5⟩ := frozen6 BK238.out; have hnb75 := NB239_257.out; have hnc75 := NB257_239.out; obtain ⟨hcz76_0, hcz76_1, hcz76_2, hcz76_3, hcz76_4⟩ := cells5 BK239.out; obtain ⟨hfz76_0, hfz76_1, hfz76_2, hfz76_3, hfz76_4⟩ := frozen5 BK239.out))
     refine bodyPost_ret (results_cc rfl _ _ gb238 gb239 33 35 #[.int .i64 t259, .int .u32 0, .int .i64 0, .int .i64 0, .bool false, .string (⟨#[]⟩ : ByteArray)] #[.int .i64 0, .int .u64 0, .int .u32 0, .int .u64 0, .int .u32 0] (0, 0) (0, 0) _ _ rfl (by (with_reducible repeat (first | refine blk_drewN ?_ _ | refine blk_drew ?_ | refine blk_alloc ?_ _ | refine blk_far ?_ NB238_239.out _)); refine blk_put (cs := #[.int .i64 t259, .int .u32 0, .int .i64 0, .int .i64 0, .bool false, .string (⟨#[]⟩ : ByteArray)]) ?_ 5 _ rfl; (with_reducible repeat (first | refine blk_drewN ?_ _ | refine blk_drew ?_ | refine blk_alloc ?_ _)); refine blk_put (cs := #[.int .i64 t259, .int .u32 0, .int .i64 0, .int .i64 0, .bool false, .string (⟨#[]⟩ : ByteArray)]) ?_ 4 _ rfl; (with_reducible repeat (first | refine blk_drewN ?_ _ | refine blk_drew ?_ | refine blk_alloc ?_ _)); refine blk_put (cs := #[.int .i64 t259, .int .u32 0, .int .i64 0, .int .i64 0, .bool false, .string (⟨#[]⟩ : ByteArray)]) ?_ 3 _ rfl; (with_reducible repeat (first | refine blk_drewN ?_ _ | refine blk_drew ?_ | refine blk_alloc ?_ _)); refine blk_put (cs := #[.int .i64 t259, .int .u32 0, .int .i64 0, .int .i64 0, .bool false, .string (⟨#[]⟩ : ByteArray)]) ?_ 2 _ rfl; (with_reducible repeat (first | refine blk_drewN ?_ _ | refine blk_drew ?_ | refine blk_alloc ?_ _)); refine blk_put (cs := #[.int .i64 t259, .int .u32 0, .int .i64 0, .int .i64 0, .bool false, .string (⟨#[]⟩ : ByteArray)]) ?_ 1 _ rfl; (with_reducible repeat (first | refine blk_drewN ?_ _ | refine blk_drew ?_ | refine blk_alloc ?_ _)); refine blk_put (cs := #[.int .i64 0, .int .u32 0, .int .i64 0, .int .i64 0, .bool false, .string (⟨#[]⟩ : ByteArray)]) ?_ 0 _ rfl; (with_reducible repeat (first | refine blk_drewN ?_ _ | refine blk_drew ?_ | refine blk_alloc ?_ _ | refine blk_far ?_ NB238_257.out _)); exact BK238.out) Tryd.underlying33 rfl qg3m rfl (by (with_reducible repeat (first | refine blk_drewN ?_ _ | refine blk_drew ?_ | refine blk_alloc ?_ _)); refine blk_put (cs := #[.int .i64 0, .int .u64 0, .int .u32 0, .int .u64 0, .int .u32 0]) ?_ 4 _ rfl; (with_reducible repeat (first | refine blk_drewN ?_ _ | refine blk_drew ?_ | refine blk_alloc ?_ _)); refine blk_put (cs := #[.int .i64 0, .int .u64 0, .int .u32 0, .int .u64 0, .int .u32 0]) ?_ 3 _ rfl; (with_reducible repeat (first | refine blk_drewN ?_ _ | refine blk_drew ?_ | refine blk_alloc ?_ _)); refine blk_put (cs := #[.int .i64 0, .int .u64 0, .int .u32 0, .int .u64 0, .int .u32 0]) ?_ 2 _ rfl; (with_reducible repeat (first | refine blk_drewN ?_ _ | refine blk_drew ?_ | refine blk_alloc ?_ _)); refine blk_put (cs := #[.int .i64 0, .int .u64 0, .int .u32 0, .int .u64 0, .int .u32 0]) ?_ 1 _ rfl; (with_reducible repeat (first | refine blk_drewN ?_ _ | refine blk_drew ?_ | refine blk_alloc ?_ _)); refine blk_put (cs := #[.int .i64 0, .int .u64 0, .int .u32 0, .int .u64 0, .int .u32 0]) ?_ 0 _ rfl; (with_reducible repeat (first | refine blk_drewN ?_ _ | refine blk_drew ?_ | refine blk_alloc ?_ _ | refine blk_far ?_ NB239_238.out _ | refine blk_far ?_ NB239_257.out _)); exact BK239.out) Tryd.underlying35 rfl qg3m) rfl ?_
     exact ⟨qxu5, qq0k⟩
    ·replace c60 := Bool.eq_false_iff.mpr c60
     subst c60
     rw [if_neg (show ¬ (false = true) by decide)] at H
     simp only [Option.some.injEq, Prod.mk.injEq] at H
     obtain ⟨rfl, rfl, rfl, rfl, rfl, rfl, rfl, rfl, rfl, rfl, rfl⟩ := H
     have hnb77 := NB237_238.out
     have hnc77 := NB238_237.out
     have hnb78 := NB237_239.out
     have hnc78 := NB239_237.out
     obtain ⟨hcz79_0, hcz79_1, hcz79_2, hcz79_3, hcz79_4, hcz79_5, hcz79_6, hcz79_7⟩ := cells8 BK237.out
     obtain ⟨hfz79_0, hfz79_1, hfz79_2, hfz79_3, hfz79_4, hfz79_5, hfz79_6, hfz79_7⟩ := frozen8 BK237.out
     go_wp2_with (first | ((with_reducible refine gate_st (ty := 29) rfl ?_); refine storeC8 rfl rfl rfl rfl rfl qzw7 qr2c qg3m rfl ?_) | ((with_reducible refine gate_ld (ty := 29) rfl ?_); (try (with_reducible refine gate_gd rfl ?_; refine gate_guard q8ju ?_; dsimp only)); refine load_st rfl rfl rfl qzw7 qr2c Tryd.underlying29 rfl qg3m ?_; (try simp only [Act.put, List.setIfInBounds_toArray, List.set_cons_zero, List.set_cons_succ])) | ((with_reducible refine gate_st (ty := 33) rfl ?_); refine storeC6 rfl rfl rfl rfl rfl qzw7 qr2c qg3m rfl ?_) | ((with_reducible refine gate_ld (ty := 33) rfl ?_); (try (with_reducible refine gate_gd rfl ?_; refine gate_guard q8ju ?_; dsimp only)); refine load_st rfl rfl rfl qzw7 qr2c Tryd.underlying33 rfl qg3m ?_; (try simp only [Act.put, List.setIfInBounds_toArray, List.set_cons_zero, List.set_cons_succ])) | ((with_reducible refine gate_st (ty := 35) rfl ?_); refine storeC5 rfl rfl rfl rfl rfl qzw7 qr2c qg3m rfl ?_) | ((with_reducible refine gate_ld (ty := 35) rfl ?_); (try (with_reducible refine gate_gd rfl ?_; refine gate_guard q8ju ?_; dsimp only)); refine load_st rfl rfl rfl qzw7 qr2c Tryd.underlying35 rfl qg3m ?_; (try simp only [Act.put, List.setIfInBounds_toArray, List.set_cons_zero, List.set_cons_succ])) | ((with_reducible refine gate_callee (f := 15) rfl ?_); refine goesL_ (some 37) rfl rfl Tryd.func15 qg3m rfl #[.int .u64 a0, .int .u32 a1, .agg #[.int .u64 a2_0, .int .u64 a2_1, .bool a2_2, .int .i64 a2_3, .bool a2_4, .int .i64 a2_5, .int .i64 a2_6, .string a2_7]] rfl qraq ?_; (with_reducible refine (station_got.calls kj3 a0 a1 a2_0 a2_1 a2_2 a2_3 a2_4 a2_5 a2_6 a2_7 t249 t250 t251 t252 t253 t254 t255 _ ?sideL A58.out).mono ?_); (case sideL => exact laid_below HLD.out qnhf); rintro e w80 ⟨rfl, hb⟩; refine ⟨_, rfl, ?_⟩; replace BK237 := Aside0.mk (blk_below (g := gb237) q9n1 hb); replace BK238 := Aside0.mk (blk_below (g := gb238) qlpn hb); replace BK239 := Aside0.mk (blk_below (g := gb239) qeco hb); replace HB := Aside0.mk (below_step qnhf hb); obtain ⟨hcy1_237_0, hcy1_237_1, hcy1_237_2, hcy1_237_3, hcy1_237_4, hcy1_237_5, hcy1_237_6, hcy1_237_7⟩ := cells8 BK237.out; (try clear hb); (try clear hb2); (try clear hk); (try clear hi); (try simp only [errW_none, errW_some])) | ((with_reducible refine gate_dst (N := 10) rfl ?_); refine box_event qgcr (N := 10) qgcr (cs := #[.int .i64 0, .int .u32 0, .int .i64 0, .int .i64 0, .bool false, .string (⟨#[]⟩ : ByteArray)]) (t := 33) qlto ?_; intro gb256 hg w81 hbox hb; have BK256 := Aside0.mk (hbox); have GE256 := Aside0.mk ((by rw [hg]; exact (below_size qnhf) : w.heap.size ≤ gb256)); have NB237_256 := Aside0.mk ((qftt : gb237 ≠ gb256)); have NB256_237 := Aside0.mk ((qv9l : gb256 ≠ gb237)); have NB238_256 := Aside0.mk ((qltk : gb238 ≠ gb256)); have NB256_238 := Aside0.mk ((q0cv : gb256 ≠ gb238)); have NB239_256 := Aside0.mk ((qnbi : gb239 ≠ gb256)); have NB256_239 := Aside0.mk ((q9ny : gb256 ≠ gb239)); replace BK237 := Aside0.mk (blk_below (g := gb237) q9n1 hb); replace BK238 := Aside0.mk (blk_below (g := gb238) qlpn hb); replace BK239 := Aside0.mk (blk_below (g := gb239) qeco hb); replace HB := Aside0.mk (below_step qnhf hb); obtain ⟨hcy2_237_0, hcy2_237_1, hcy2_237_2, hcy2_237_3, hcy2_237_4, hcy2_237_5, hcy2_237_6, hcy2_237_7⟩ := cells8 BK237.out; clear hb hbox hg; have hnb82 := NB256_237.out; have hnc82 := NB237_256.out; have hnb83 := NB256_238.out; have hnc83 := NB238_256.out; have hnb84 := NB256_239.out; have hnc84 := NB239_256.out; obtain ⟨hcz85_0, hcz85_1, hcz85_2, hcz85_3, hcz85_4, hcz85_5⟩ := cells6 BK256.out; obtain ⟨hfz85_0, hfz85_1, hfz85_2, hfz85_3, hfz85_4, hfz85_5⟩ := frozen6 BK256.out) | ((with_reducible refine gate_dst (N := 12) rfl ?_); refine box_event qgcr (N := 12) qgcr (cs := #[.int .i64 0]) (t := 58) qlto ?_; intro gb257 hg w86 hbox hb; have BK257 := Aside0.mk (hbox); have GE257 := Aside0.mk ((by rw [hg]; exact (below_size q5zg) : w.heap.size ≤ gb257)); have NB237_257 := Aside0.mk ((q5ze : gb237 ≠ gb257)); have NB257_237 := Aside0.mk ((qb76 : gb257 ≠ gb237)); have NB238_257 := Aside0.mk ((qebs : gb238 ≠ gb257)); have NB257_238 := Aside0.mk ((qpfl : gb257 ≠ gb238)); have NB239_257 := Aside0.mk ((qx41 : gb239 ≠ gb257)); have NB257_239 := Aside0.mk ((qrkh : gb257 ≠ gb239)); have NB256_257 := Aside0.mk ((qbqy : gb256 ≠ gb257)); have NB257_256 := Aside0.mk ((qi8x : gb257 ≠ gb256)); replace BK237 := Aside0.mk (blk_below (g := gb237) (o := .cells #[.int .u64 a2_0, .int .u64 a2_1, .bool a2_2, .int .i64 a2_3, .bool a2_4, .int .i64 a2_5, .int .i64 a2_6, .string a2_7] 29 (0, 0)) qhu9 hb); replace BK238 := Aside0.mk (blk_below (g := gb238) (o := .cells #[.int .i64 0, .int .u32 0, .int .i64 0, .int .i64 0, .bool false, .string (⟨#[]⟩ : ByteArray)] 33 (0, 0)) qzq4 hb); replace BK239 := Aside0.mk (blk_below (g := gb239) (o := .cells #[.int .i64 0, .int .u64 0, .int .u32 0, .int .u64 0, .int .u32 0] 35 (0, 0)) qi4t hb); replace BK256 := Aside0.mk (blk_below (g := gb256) (o := .cells #[.int .i64 t249, .int .u32 t250, .int .i64 t251, .int .i64 t252, .bool t253, .string t254] 33 (0, 0)) qnxd hb); replace HB := Aside0.mk (below_step q5zg hb); obtain ⟨hcy3_237_0, hcy3_237_1, hcy3_237_2, hcy3_237_3, hcy3_237_4, hcy3_237_5, hcy3_237_6, hcy3_237_7⟩ := cells8 BK237.out; clear hb hbox hg; have CA59 := fun W (hL_ : Laid W) => errors_As.miss gb257 t255 t259 W A59.out; try simp only [errW_none, errW_some] at CA59) | (go_at_call 16; (with_reducible refine (CA59 _ ?sideL).mono ?_); (case sideL => exact laid_below HLD.out qq0k); rintro e w87 ⟨rfl, hb⟩; replace BK237 := Aside0.mk (blk_below (g := gb237) q9n1 hb); replace BK238 := Aside0.mk (blk_below (g := gb238) qlpn hb); replace BK239 := Aside0.mk (blk_below (g := gb239) qeco hb); replace BK256 := Aside0.mk (blk_below (g := gb256) qgo5 hb); replace BK257 := Aside0.mk (blk_below (g := gb257) qu7k hb); replace HB := Aside0.mk (below_step qq0k hb); obtain ⟨hcy4_237_0, hcy4_237_1, hcy4_237_2, hcy4_237_3, hcy4_237_4, hcy4_237_5, hcy4_237_6, hcy4_237_7⟩ := cells8 BK237.out; (try clear hb); (try clear hb2); (try clear hk); (try clear hi); have hnb88 := NB256_257.out; have hnc88 := NB257_256.out; obtain ⟨hcz89_0, hcz89_1, hcz89_2, hcz89_3, hcz89_4, hcz89_5⟩ := cells6 BK256.out; obtain ⟨hfz89_0, hfz89_1, hfz89_2, hfz89_3, hfz89_4, hfz89_5⟩ := frozen6 BK256.out; have hnb90 := NB238_239.out; have hnc90 := NB239_238.out; have hnb91 := NB238_257.out; have hnc91 := NB257_238.out; obtain ⟨hcz92_0, hcz92_1, hcz92_2, hcz92_3, hcz92_4, hcz92_5⟩ := cells6 BK238.out; obtain ⟨hfz92_0, hfz92_1, hfz92_2, hfz92_3, hfz92_4, hfz92_5⟩ := frozen6 BK238.out; have hnb93 := NB239_257.out; have hnc93 := NB257_239.out; obtain ⟨hcz94_0, hcz94_1, hcz94_2, hcz94_3, hcz94_4⟩ := cells5 BK239.out; obtain ⟨hfz94_0, hfz94_1, hfz94_2, hfz94_3, hfz94_4⟩ := frozen5 BK239.out))
     refine bodyPost_ret (results_cc rfl _ _ gb238 gb239 33 35 #[.int .i64 t249, .int .u32 t250, .int .i64 t251, .int .i64 t252, .bool t253, .string t254] #[.int .i64 0, .int .u64 0, .int .u32 0, .int .u64 0, .int .u32 0] (0, 0) (0, 0) _ _ rfl qyj0 Tryd.underlying33 rfl qg3m rfl q5uv Tryd.underlying35 rfl qg3m) rfl ?_
     exact ⟨qxu5, qq0k⟩

end Go.Proofs.YtbkgaplldfilnaaDoor.P
