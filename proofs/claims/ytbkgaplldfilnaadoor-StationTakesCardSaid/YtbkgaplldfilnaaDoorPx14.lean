-- slim
-- Written by wip/hprint.py (this session's program) through the kit's print program; hand contracts are marked 'by hand'.
import Derived.Test.YtbkgaplldfilnaaDoorAbb
import Derived.Test.YtbkgaplldfilnaaDoorRow
import Derived.Test.YtbkgaplldfilnaaDoorPx0
import Derived.Test.YtbkgaplldfilnaaDoorPx13
namespace Go.Proofs.YtbkgaplldfilnaaDoor.P
open Go.RowKit Go.Proofs.YtbkgaplldfilnaaDoorW.PrintWords Go.Proofs.YtbkgaplldfilnaaDoorW.PrintLast Go.Proofs.YtbkgaplldfilnaaDoorW.PrintMore
attribute [local go_sem] max2_int min2_int max_two min_two max_three min_three max_four min_four   -- for this text's walks alone
set_option linter.unusedVariables false
set_option linter.unusedSimpArgs false

theorem q91p {p : Prop} (h : p := by (with_reducible repeat (first | refine blk_drewN ?_ _ | refine blk_drew ?_ | refine blk_alloc ?_ _)); exact BK157.out) : p := h
theorem quii {p : Prop} (h : p := by (with_reducible repeat (first | refine blk_drewN ?_ _ | refine blk_drew ?_ | refine blk_alloc ?_ _)); exact BK169.out) : p := h
theorem qexo {p : Prop} (h : p := by (with_reducible repeat (first | refine blk_drewN ?_ _ | refine blk_drew ?_ | refine blk_alloc ?_ _ | refine blk_far ?_ NB157_169.out _)); exact BK157.out) : p := h
theorem qwka {p : Prop} (h : p := by repeat (first | (with_reducible first | exact HB.out | apply below_alloc | apply pw_below_drewN | apply below_drew1 | refine below_set ?_ GE157.out) | exact HB.out)) : p := h
theorem qbna {p : Prop} (h : p := by with_reducible repeat (first | (apply blk_far; case hp => assumption) | apply blk_set | refine blk_drewN ?_ _ | refine blk_drew ?_ | refine blk_alloc ?_ _ | exact BK157.out | exact BK169.out)) : p := h
theorem q634 {p : Prop} (h : p := by repeat (first | (with_reducible first | exact HB.out | apply below_alloc | apply pw_below_drewN | apply below_drew1 | refine below_set ?_ GE157.out | refine below_set ?_ GE169.out) | exact HB.out)) : p := h
theorem qy01 {p : Prop} (h : p := by exact ⟨(blk_cell BK169.out 0).trans rfl, (blk_cell BK169.out 1).trans rfl, (blk_cell BK169.out 2).trans rfl, (blk_cell BK169.out 3).trans rfl, (blk_cell BK169.out 4).trans rfl, (blk_cell BK169.out 5).trans rfl, (blk_cell BK169.out 6).trans rfl, (blk_cell BK169.out 7).trans rfl, (blk_cell BK169.out 8).trans rfl, (blk_cell BK169.out 9).trans rfl⟩) : p := h
theorem qplc {p : Prop} (h : p := by exact ⟨((cell_far (p := ⟨gb157, _, none⟩) NB169_157.out _).trans (((cell_far (p := ⟨gb157, _, none⟩) NB169_157.out _).trans (((cell_far (p := ⟨gb157, _, none⟩) NB169_157.out _).trans (((cell_far (p := ⟨gb157, _, none⟩) NB169_157.out _).trans (((cell_far (p := ⟨gb157, _, none⟩) NB169_157.out _).trans (((cell_far (p := ⟨gb157, _, none⟩) NB169_157.out _).trans (((cell_far (p := ⟨gb157, _, none⟩) NB169_157.out _).trans (((cell_far (p := ⟨gb157, _, none⟩) NB169_157.out _).trans (((cell_far (p := ⟨gb157, _, none⟩) NB169_157.out _).trans (((cell_far (p := ⟨gb157, _, none⟩) NB169_157.out _).trans (hHeld.1)))))))))))))))))))), ((cell_far (p := ⟨gb157, _, none⟩) NB169_157.out _).trans (((cell_far (p := ⟨gb157, _, none⟩) NB169_157.out _).trans (((cell_far (p := ⟨gb157, _, none⟩) NB169_157.out _).trans (((cell_far (p := ⟨gb157, _, none⟩) NB169_157.out _).trans (((cell_far (p := ⟨gb157, _, none⟩) NB169_157.out _).trans (((cell_far (p := ⟨gb157, _, none⟩) NB169_157.out _).trans (((cell_far (p := ⟨gb157, _, none⟩) NB169_157.out _).trans (((cell_far (p := ⟨gb157, _, none⟩) NB169_157.out _).trans (((cell_far (p := ⟨gb157, _, none⟩) NB169_157.out _).trans (((cell_far (p := ⟨gb157, _, none⟩) NB169_157.out _).trans (hHeld.2.1)))))))))))))))))))), ((cell_far (p := ⟨gb157, _, none⟩) NB169_157.out _).trans (((cell_far (p := ⟨gb157, _, none⟩) NB169_157.out _).trans (((cell_far (p := ⟨gb157, _, none⟩) NB169_157.out _).trans (((cell_far (p := ⟨gb157, _, none⟩) NB169_157.out _).trans (((cell_far (p := ⟨gb157, _, none⟩) NB169_157.out _).trans (((cell_far (p := ⟨gb157, _, none⟩) NB169_157.out _).trans (((cell_far (p := ⟨gb157, _, none⟩) NB169_157.out _).trans (((cell_far (p := ⟨gb157, _, none⟩) NB169_157.out _).trans (((cell_far (p := ⟨gb157, _, none⟩) NB169_157.out _).trans (((cell_far (p := ⟨gb157, _, none⟩) NB169_157.out _).trans (hHeld.2.2.1)))))))))))))))))))), ((cell_far (p := ⟨gb157, _, none⟩) NB169_157.out _).trans (((cell_far (p := ⟨gb157, _, none⟩) NB169_157.out _).trans (((cell_far (p := ⟨gb157, _, none⟩) NB169_157.out _).trans (((cell_far (p := ⟨gb157, _, none⟩) NB169_157.out _).trans (((cell_far (p := ⟨gb157, _, none⟩) NB169_157.out _).trans (((cell_far (p := ⟨gb157, _, none⟩) NB169_157.out _).trans (((cell_far (p := ⟨gb157, _, none⟩) NB169_157.out _).trans (((cell_far (p := ⟨gb157, _, none⟩) NB169_157.out _).trans (((cell_far (p := ⟨gb157, _, none⟩) NB169_157.out _).trans (((cell_far (p := ⟨gb157, _, none⟩) NB169_157.out _).trans (hHeld.2.2.2.1)))))))))))))))))))), ((cell_far (p := ⟨gb157, _, none⟩) NB169_157.out _).trans (((cell_far (p := ⟨gb157, _, none⟩) NB169_157.out _).trans (((cell_far (p := ⟨gb157, _, none⟩) NB169_157.out _).trans (((cell_far (p := ⟨gb157, _, none⟩) NB169_157.out _).trans (((cell_far (p := ⟨gb157, _, none⟩) NB169_157.out _).trans (((cell_far (p := ⟨gb157, _, none⟩) NB169_157.out _).trans (((cell_far (p := ⟨gb157, _, none⟩) NB169_157.out _).trans (((cell_far (p := ⟨gb157, _, none⟩) NB169_157.out _).trans (((cell_far (p := ⟨gb157, _, none⟩) NB169_157.out _).trans (((cell_far (p := ⟨gb157, _, none⟩) NB169_157.out _).trans (hHeld.2.2.2.2.1)))))))))))))))))))), ((cell_far (p := ⟨gb157, _, none⟩) NB169_157.out _).trans (((cell_far (p := ⟨gb157, _, none⟩) NB169_157.out _).trans (((cell_far (p := ⟨gb157, _, none⟩) NB169_157.out _).trans (((cell_far (p := ⟨gb157, _, none⟩) NB169_157.out _).trans (((cell_far (p := ⟨gb157, _, none⟩) NB169_157.out _).trans (((cell_far (p := ⟨gb157, _, none⟩) NB169_157.out _).trans (((cell_far (p := ⟨gb157, _, none⟩) NB169_157.out _).trans (((cell_far (p := ⟨gb157, _, none⟩) NB169_157.out _).trans (((cell_far (p := ⟨gb157, _, none⟩) NB169_157.out _).trans (((cell_far (p := ⟨gb157, _, none⟩) NB169_157.out _).trans (hHeld.2.2.2.2.2.1)))))))))))))))))))), ((cell_far (p := ⟨gb157, _, none⟩) NB169_157.out _).trans (((cell_far (p := ⟨gb157, _, none⟩) NB169_157.out _).trans (((cell_far (p := ⟨gb157, _, none⟩) NB169_157.out _).trans (((cell_far (p := ⟨gb157, _, none⟩) NB169_157.out _).trans (((cell_far (p := ⟨gb157, _, none⟩) NB169_157.out _).trans (((cell_far (p := ⟨gb157, _, none⟩) NB169_157.out _).trans (((cell_far (p := ⟨gb157, _, none⟩) NB169_157.out _).trans (((cell_far (p := ⟨gb157, _, none⟩) NB169_157.out _).trans (((cell_far (p := ⟨gb157, _, none⟩) NB169_157.out _).trans (((cell_far (p := ⟨gb157, _, none⟩) NB169_157.out _).trans (hHeld.2.2.2.2.2.2.1)))))))))))))))))))), ((cell_far (p := ⟨gb157, _, none⟩) NB169_157.out _).trans (((cell_far (p := ⟨gb157, _, none⟩) NB169_157.out _).trans (((cell_far (p := ⟨gb157, _, none⟩) NB169_157.out _).trans (((cell_far (p := ⟨gb157, _, none⟩) NB169_157.out _).trans (((cell_far (p := ⟨gb157, _, none⟩) NB169_157.out _).trans (((cell_far (p := ⟨gb157, _, none⟩) NB169_157.out _).trans (((cell_far (p := ⟨gb157, _, none⟩) NB169_157.out _).trans (((cell_far (p := ⟨gb157, _, none⟩) NB169_157.out _).trans (((cell_far (p := ⟨gb157, _, none⟩) NB169_157.out _).trans (((cell_far (p := ⟨gb157, _, none⟩) NB169_157.out _).trans (hHeld.2.2.2.2.2.2.2.1)))))))))))))))))))), ((cell_far (p := ⟨gb157, _, none⟩) NB169_157.out _).trans (((cell_far (p := ⟨gb157, _, none⟩) NB169_157.out _).trans (((cell_far (p := ⟨gb157, _, none⟩) NB169_157.out _).trans (((cell_far (p := ⟨gb157, _, none⟩) NB169_157.out _).trans (((cell_far (p := ⟨gb157, _, none⟩) NB169_157.out _).trans (((cell_far (p := ⟨gb157, _, none⟩) NB169_157.out _).trans (((cell_far (p := ⟨gb157, _, none⟩) NB169_157.out _).trans (((cell_far (p := ⟨gb157, _, none⟩) NB169_157.out _).trans (((cell_far (p := ⟨gb157, _, none⟩) NB169_157.out _).trans (((cell_far (p := ⟨gb157, _, none⟩) NB169_157.out _).trans (hHeld.2.2.2.2.2.2.2.2.1)))))))))))))))))))), ((cell_far (p := ⟨gb157, _, none⟩) NB169_157.out _).trans (((cell_far (p := ⟨gb157, _, none⟩) NB169_157.out _).trans (((cell_far (p := ⟨gb157, _, none⟩) NB169_157.out _).trans (((cell_far (p := ⟨gb157, _, none⟩) NB169_157.out _).trans (((cell_far (p := ⟨gb157, _, none⟩) NB169_157.out _).trans (((cell_far (p := ⟨gb157, _, none⟩) NB169_157.out _).trans (((cell_far (p := ⟨gb157, _, none⟩) NB169_157.out _).trans (((cell_far (p := ⟨gb157, _, none⟩) NB169_157.out _).trans (((cell_far (p := ⟨gb157, _, none⟩) NB169_157.out _).trans (((cell_far (p := ⟨gb157, _, none⟩) NB169_157.out _).trans (hHeld.2.2.2.2.2.2.2.2.2))))))))))))))))))))⟩) : p := h
theorem qg8i {p : Prop} (h : p := by (with_reducible repeat (first | refine blk_drewN ?_ _ | refine blk_drew ?_ | refine blk_alloc ?_ _)); exact put10_0_10 q91p) : p := h
theorem qf9o {p : Prop} (h : p := by (with_reducible repeat (first | refine blk_drewN ?_ _ | refine blk_drew ?_ | refine blk_alloc ?_ _)); exact put10_0_10 quii) : p := h
/-! ### station_packet: function 30 -/
def station_packet.j0 : Nat → Int → Bool → Int → Int → Bool → Bool → Int → Int → Int → Int → Int → ByteArray → Option (Int × Int × Bool × Bool × Int × Int × Int × Int × Int × ByteArray × Option Int)
 | 0, _, _, _, _, _, _, _, _, _, _, _, _ => none
 | k + 1, x0, x13, x170000, x170001, x170002, x170003, x170004, x170005, x170006, x170007, x170008, x170009 => if x13 = true then ((station_not.f (⟨#[112, 97, 99, 107, 101, 116]⟩ : ByteArray) 4).bind fun t170 => (some (x170000, x170001, x170002, x170003, x170004, x170005, x170006, x170007, x170008, x170009, t170))) else (if x170008 = x0 then ((inet_Part.f x170000 x170001 x170002 x170003 x170004 x170005 x170006 x170007 x170008 x170009).bind fun t171 => (if t171 = true then ((station_not.f (⟨#[112, 97, 99, 107, 101, 116]⟩ : ByteArray) 5).bind fun t172 => (some (x170000, x170001, x170002, x170003, x170004, x170005, x170006, x170007, x170008, x170009, t172))) else (some (x170000, x170001, x170002, x170003, x170004, x170005, x170006, x170007, x170008, x170009, none)))) else ((station_not.f (⟨#[112, 97, 99, 107, 101, 116]⟩ : ByteArray) 2).bind fun t173 => (some (x170000, x170001, x170002, x170003, x170004, x170005, x170006, x170007, x170008, x170009, t173))))
def station_packet.f (k : Nat) (a0 : Int) (a1 : ByteArray) : Option (Int × Int × Bool × Bool × Int × Int × Int × Int × Int × ByteArray × Option Int) := (inet_Parse.f k a1).bind fun bt158 => (if bt158.2.2.2.2.2.2.2.2.2.2 = 0 then (station_packet.j0 k a0 (bt158.2.2.2.2.2.1 == 0) bt158.1 bt158.2.1 bt158.2.2.1 bt158.2.2.2.1 bt158.2.2.2.2.1 bt158.2.2.2.2.2.1 bt158.2.2.2.2.2.2.1 bt158.2.2.2.2.2.2.2.1 bt158.2.2.2.2.2.2.2.2.1 bt158.2.2.2.2.2.2.2.2.2.1) else (station_packet.j0 k a0 true bt158.1 bt158.2.1 bt158.2.2.1 bt158.2.2.2.1 bt158.2.2.2.2.1 bt158.2.2.2.2.2.1 bt158.2.2.2.2.2.2.1 bt158.2.2.2.2.2.2.2.1 bt158.2.2.2.2.2.2.2.2.1 bt158.2.2.2.2.2.2.2.2.2.1))
theorem station_packet.mono_l : ∀ k, (∀ y0 y1 y2 y3 y4 y5 y6 y7 y8 y9 y10 y11, LeO (station_packet.j0 k y0 y1 y2 y3 y4 y5 y6 y7 y8 y9 y10 y11) (station_packet.j0 (k + 1) y0 y1 y2 y3 y4 y5 y6 y7 y8 y9 y10 y11))
 | 0 => fun _ _ _ _ _ _ _ _ _ _ _ _ r h => by simp [station_packet.j0] at h
 | k + 1 => by
  have ih0 := station_packet.mono_l k
  ·intro y0 y1 y2 y3 y4 y5 y6 y7 y8 y9 y10 y11
   unfold station_packet.j0
   repeat' first
   | (with_reducible exact ih0 _ _ _ _ _ _ _ _ _ _ _ _)
   | (with_reducible exact inet_Parse.mono _ _)
   | (with_reducible exact LeO.refl _)
   | (with_reducible exact LeO.none _)
   | (with_reducible refine LeO.ite ?_ ?_)
   | (with_reducible refine LeO.bind ?_ (fun _ => ?_))
   | exact ih0 _ _ _ _ _ _ _ _ _ _ _ _
   | exact inet_Parse.mono _ _
   | exact LeO.none _
   | refine LeO.ite ?_ ?_
   | refine LeO.bind ?_ (fun _ => ?_)
theorem station_packet.mono : ∀ a0 a1 k, LeO (station_packet.f k a0 a1) (station_packet.f (k + 1) a0 a1) := by
 intro a0 a1 k
 have ih0 := station_packet.mono_l k
 unfold station_packet.f
 repeat' first
   | (with_reducible exact ih0 _ _ _ _ _ _ _ _ _ _ _ _)
   | (with_reducible exact inet_Parse.mono _ _)
   | (with_reducible exact LeO.refl _)
   | (with_reducible exact LeO.none _)
   | (with_reducible refine LeO.ite ?_ ?_)
   | (with_reducible refine LeO.bind ?_ (fun _ => ?_))
   | exact ih0 _ _ _ _ _ _ _ _ _ _ _ _
   | exact inet_Parse.mono _ _
   | exact LeO.none _
   | refine LeO.ite ?_ ?_
   | refine LeO.bind ?_ (fun _ => ?_)
set_option maxHeartbeats 8000000 in
set_option maxRecDepth 100000 in
theorem station_packet.calls (k : Nat) (a0 : Int) (a1 : ByteArray) (r1 : Int) (r2 : Int) (r3 : Bool) (r4 : Bool) (r5 : Int) (r6 : Int) (r7 : Int) (r8 : Int) (r9 : Int) (r10 : ByteArray) (r11 : Option Int) (w : World) (hL : Laid w) (h : station_packet.f k a0 a1 = some (r1, r2, r3, r4, r5, r6, r7, r8, r9, r10, r11)) :
  Calls Tryd.prog 30 #[.int .u32 a0, .string a1] w fun e w' => e = .returned (.tuple #[.agg #[.int .i64 r1, .int .i64 r2, .bool r3, .bool r4, .int .i64 r5, .int .i64 r6, .int .i64 r7, .int .u32 r8, .int .u32 r9, .string r10], errW r11]) ∧ Below w.heap.size w w' := by
 have HLD := Aside0.mk hL
 clear hL
 have hu64 := Tryd.underlying64
 have HB := Aside0.mk (Below.refl w.heap.size w)
 have H := h
 unfold station_packet.f at H
 clear h
 replace H := Option.bind_eq_some_iff.mp H
 obtain ⟨⟨t158, t159, t160, t161, t162, t163, t164, t165, t166, t167, t168⟩, A30, H⟩ := H
 try dsimp only at H
 have A3 := Aside0.mk A30
 clear A30
 have HC4 := Aside0.mk H
 clear H
 go_enter Tryd.func30, Tryd.ntmps30
 go_upto_region 2 with (first | ((with_reducible refine gate_st (ty := 64) rfl ?_); refine storeC10 rfl rfl rfl rfl rfl qbna qr2c qg3m rfl ?_) | ((with_reducible refine gate_ld (ty := 64) rfl ?_); (try (with_reducible refine gate_gd rfl ?_; refine gate_guard q8ju ?_; dsimp only)); refine load_st rfl rfl rfl qbna qr2c Tryd.underlying64 rfl qg3m ?_; (try simp only [Act.put, List.setIfInBounds_toArray, List.set_cons_zero, List.set_cons_succ])) | ((with_reducible refine gate_dst (N := 4) rfl ?_); refine box_event qgcr (N := 4) qgcr (cs := #[.int .i64 0, .int .i64 0, .bool false, .bool false, .int .i64 0, .int .i64 0, .int .i64 0, .int .u32 0, .int .u32 0, .string (⟨#[]⟩ : ByteArray)]) (t := 64) qlto ?_; intro gb157 hg w5 hbox hb; have BK157 := Aside0.mk (hbox); have GE157 := Aside0.mk ((qisx : w.heap.size ≤ gb157)); replace HB := Aside0.mk (below_step qpag hb); clear hb hbox hg) | ((with_reducible refine gate_callee (f := 59) rfl ?_); refine goesL_ (some 10) rfl rfl Tryd.func59 qg3m rfl #[.string a1] rfl qraq ?_; (with_reducible refine (inet_Parse.calls k a1 t158 t159 t160 t161 t162 t163 t164 t165 t166 t167 t168 _ ?sideL A3.out).mono ?_); (case sideL => exact laid_below HLD.out qwka); rintro e w6 ⟨rfl, hb⟩; refine ⟨_, rfl, ?_⟩; replace BK157 := Aside0.mk (blk_below (g := gb157) q91p hb); replace HB := Aside0.mk (below_step qwka hb); (try clear hb); (try clear hb2); (try clear hk); (try clear hi)) | ((with_reducible refine gate_dst (N := 6) rfl ?_); refine box_event qgcr (N := 6) qgcr (cs := #[.int .i64 0, .int .i64 0, .bool false, .bool false, .int .i64 0, .int .i64 0, .int .i64 0, .int .u32 0, .int .u32 0, .string (⟨#[]⟩ : ByteArray)]) (t := 64) qlto ?_; intro gb169 hg w7 hbox hb; have BK169 := Aside0.mk (hbox); have GE169 := Aside0.mk ((by rw [hg]; exact (below_size qwka) : w.heap.size ≤ gb169)); have NB157_169 := Aside0.mk ((by rw [hg]; exact Nat.ne_of_lt (blk_lt (g := gb157) q91p) : gb157 ≠ gb169)); have NB169_157 := Aside0.mk ((by rw [hg]; exact Nat.ne_of_gt (blk_lt (g := gb157) q91p) : gb169 ≠ gb157)); replace BK157 := Aside0.mk (blk_below (g := gb157) q91p hb); replace HB := Aside0.mk (below_step qwka hb); clear hb hbox hg; have hnb8 := NB169_157.out; have hnc8 := NB157_169.out; obtain ⟨hcz9_0, hcz9_1, hcz9_2, hcz9_3, hcz9_4, hcz9_5, hcz9_6, hcz9_7, hcz9_8, hcz9_9⟩ := cells10 BK169.out; obtain ⟨hfz9_0, hfz9_1, hfz9_2, hfz9_3, hfz9_4, hfz9_5, hfz9_6, hfz9_7, hfz9_8, hfz9_9⟩ := frozen10 BK169.out))
 (try simp only [Act.put, List.setIfInBounds_toArray, List.set_cons_zero, List.set_cons_succ])
 go_cut [13] (fun v13 wc => ∃ (kq : Nat) (x13_3 : Bool), v13 = .bool x13_3 ∧ Aside0 (station_packet.j0 kq a0 x13_3 t158 t159 t160 t161 t162 t163 t164 t165 t166 t167 = some (r1, r2, r3, r4, r5, r6, r7, r8, r9, r10, r11)) ∧ Aside0 (kq ≤ k) ∧ Aside0 (wc.heap[gb157]? = some (.cells #[.int .i64 0, .int .i64 0, .bool false, .bool false, .int .i64 0, .int .i64 0, .int .i64 0, .int .u32 0, .int .u32 0, .string (⟨#[]⟩ : ByteArray)] 64 (0, 0))) ∧ Aside0 (wc.heap[gb169]? = some (.cells #[.int .i64 t158, .int .i64 t159, .bool t160, .bool t161, .int .i64 t162, .int .i64 t163, .int .i64 t164, .int .u32 t165, .int .u32 t166, .string t167] 64 (0, 0))) ∧ Aside0 (Below w.heap.size w wc))
 case first =>
  have H := HC4.out
  clear HC4
  by_cases c10 : t168 = 0
  ·rw [if_pos c10] at H
   have c10b0 : (t168 == 0) = true := beq_iff_eq.mpr c10
   have c10b1 : (t168 != 0) = false := bne_eq_false_iff_eq.mpr c10
   clear c10
   (first | rw [c10b0] | (simp only [i64_w, i32_w]; rw [c10b0]) | skip)
   have H' := Aside0.mk H
   clear H
   have hnb11 := NB169_157.out
   have hnc11 := NB157_169.out
   obtain ⟨hcz12_0, hcz12_1, hcz12_2, hcz12_3, hcz12_4, hcz12_5, hcz12_6, hcz12_7, hcz12_8, hcz12_9⟩ := cells10 BK169.out
   obtain ⟨hfz12_0, hfz12_1, hfz12_2, hfz12_3, hfz12_4, hfz12_5, hfz12_6, hfz12_7, hfz12_8, hfz12_9⟩ := frozen10 BK169.out
   go_wp2_with (first | ((with_reducible refine gate_st (ty := 64) rfl ?_); refine storeC10 rfl rfl rfl rfl rfl qbna qr2c qg3m rfl ?_) | ((with_reducible refine gate_ld (ty := 64) rfl ?_); (try (with_reducible refine gate_gd rfl ?_; refine gate_guard q8ju ?_; dsimp only)); refine load_st rfl rfl rfl qbna qr2c Tryd.underlying64 rfl qg3m ?_; (try simp only [Act.put, List.setIfInBounds_toArray, List.set_cons_zero, List.set_cons_succ])) | go_in)
   go_meet
   case rel => exact ⟨_, ((t163 == 0)), q8z4, H', ⟨qpfc⟩, ⟨qexo⟩, ⟨qf9o⟩, ⟨q634⟩⟩
  ·rw [if_neg c10] at H
   have c10b0 : (t168 == 0) = false := beq_eq_false_iff_ne.mpr c10
   have c10b1 : (t168 != 0) = true := bne_iff_ne.mpr c10
   (first | rw [c10b0] | (simp only [i64_w, i32_w]; rw [c10b0]) | skip)
   have H' := Aside0.mk H
   clear H
   go_wp2_with (first | ((with_reducible refine gate_st (ty := 64) rfl ?_); refine storeC10 rfl rfl rfl rfl rfl qbna qr2c qg3m rfl ?_) | ((with_reducible refine gate_ld (ty := 64) rfl ?_); (try (with_reducible refine gate_gd rfl ?_; refine gate_guard q8ju ?_; dsimp only)); refine load_st rfl rfl rfl qbna qr2c Tryd.underlying64 rfl qg3m ?_; (try simp only [Act.put, List.setIfInBounds_toArray, List.set_cons_zero, List.set_cons_succ])) | go_in)
   go_meet
   case rel => exact ⟨_, (true), q8z4, H', ⟨qpfc⟩, ⟨qexo⟩, ⟨qf9o⟩, ⟨q634⟩⟩
 case rest =>
  clear HC4
  try clear c1
  try clear p2
  try clear c3
  try clear c5
  try clear c8
  try clear c10
  try clear c10b0
  try clear c10b1
  try clear c11
  obtain ⟨kq, x13_3, rfl, HA, HJ3, BK157, BK169, HB⟩ := hcut
  cases kq with
  | zero => exact absurd HA.out (by simp [station_packet.j0])
  | succ kj3 =>
   have H := HA.out
   clear HA
   simp only [station_packet.j0] at H
   by_cases c13 : x13_3 = true
   ·subst c13
    rw [if_pos rfl] at H
    replace H := Option.bind_eq_some_iff.mp H
    obtain ⟨t170, A140, H⟩ := H
    try dsimp only at H
    have A14 := Aside0.mk A140
    clear A140
    simp only [Option.some.injEq, Prod.mk.injEq] at H
    obtain ⟨rfl, rfl, rfl, rfl, rfl, rfl, rfl, rfl, rfl, rfl, rfl⟩ := H
    try go_wp2_with (first | ((with_reducible refine gate_st (ty := 64) rfl ?_); refine storeC10 rfl rfl rfl rfl rfl qbna qr2c qg3m rfl ?_) | ((with_reducible refine gate_ld (ty := 64) rfl ?_); (try (with_reducible refine gate_gd rfl ?_; refine gate_guard q8ju ?_; dsimp only)); refine load_st rfl rfl rfl qbna qr2c Tryd.underlying64 rfl qg3m ?_; (try simp only [Act.put, List.setIfInBounds_toArray, List.set_cons_zero, List.set_cons_succ])) | go_in)
    replace BK157 := Aside0.mk (blk_drew BK157.out)
    replace BK169 := Aside0.mk (blk_drew BK169.out)
    replace HB := Aside0.mk (below_drew1 HB.out)
    refine start_ (n := 4) (S := fun w' => w'.cell? ⟨gb169, 0, none⟩ = some (.int .i64 t158) ∧ w'.cell? ⟨gb169, 1, none⟩ = some (.int .i64 t159) ∧ w'.cell? ⟨gb169, 2, none⟩ = some (.bool t160) ∧ w'.cell? ⟨gb169, 3, none⟩ = some (.bool t161) ∧ w'.cell? ⟨gb169, 4, none⟩ = some (.int .i64 t162) ∧ w'.cell? ⟨gb169, 5, none⟩ = some (.int .i64 t163) ∧ w'.cell? ⟨gb169, 6, none⟩ = some (.int .i64 t164) ∧ w'.cell? ⟨gb169, 7, none⟩ = some (.int .u32 t165) ∧ w'.cell? ⟨gb169, 8, none⟩ = some (.int .u32 t166) ∧ w'.cell? ⟨gb169, 9, none⟩ = some (.string t167)) (ds := []) #[false, false, false, false] qg3m rfl rfl ⟨(blk_cell BK169.out 0).trans rfl, (blk_cell BK169.out 1).trans rfl, (blk_cell BK169.out 2).trans rfl, (blk_cell BK169.out 3).trans rfl, (blk_cell BK169.out 4).trans rfl, (blk_cell BK169.out 5).trans rfl, (blk_cell BK169.out 6).trans rfl, (blk_cell BK169.out 7).trans rfl, (blk_cell BK169.out 8).trans rfl, (blk_cell BK169.out 9).trans rfl⟩ (fun hHeld => ?_)
    generalize wc.drew = w15 at BK157 BK169 HB hHeld ⊢
    refine tk_0f5 (i := 0) (N := some 21) #[true, false, false, false] hHeld ?_
    refine one_ (i := 1) (N := some 22) #[true, true, false, false] rfl rfl qg3m qomw (fun K hK => ?_)
    refine goes_ Tryd.func27 qg3m rfl #[.string (⟨#[112, 97, 99, 107, 101, 116]⟩ : ByteArray), .int .i64 4] qlo1 rfl rfl qraq ?_
    with_reducible refine (station_not.calls (⟨#[112, 97, 99, 107, 101, 116]⟩ : ByteArray) 4 t170 _ A14.out).mono ?_
    rintro e w' ⟨rfl, ⟨nd, rfl⟩⟩
    refine ⟨_, rfl, ?_⟩
    (try simp only [errW_none, errW_some])
    refine hK.out _ _ qy01 (fun hHeld => ?_)
    clear hK K
    refine norm_ (a' := ?_) ?_ ?_
    rotate_left
    ·show Act.put _ (some 22) _ = _
     simp only [Act.put, List.setIfInBounds_toArray, List.set_cons_zero, List.set_cons_succ, i64_w, i32_w]
     rfl
    refine one_ (i := 2) (N := none) #[true, true, true, false] rfl rfl qg3m qomw (fun K hK => ?_)
    have hs16 : w15.cell? ⟨gb157, 0, none⟩ = some (.int .i64 0) := (blk_cell BK157.out 0).trans rfl
    have hfs16 := blk_frozen BK157.out 0
    have hns16_1 := NB169_157.out
    have hms16_1 := NB157_169.out
    have hs17 : w15.cell? ⟨gb157, 1, none⟩ = some (.int .i64 0) := (blk_cell BK157.out 1).trans rfl
    have hfs17 := blk_frozen BK157.out 1
    have hns17_1 := NB169_157.out
    have hms17_1 := NB157_169.out
    have hs18 : w15.cell? ⟨gb157, 2, none⟩ = some (.bool false) := (blk_cell BK157.out 2).trans rfl
    have hfs18 := blk_frozen BK157.out 2
    have hns18_1 := NB169_157.out
    have hms18_1 := NB157_169.out
    have hs19 : w15.cell? ⟨gb157, 3, none⟩ = some (.bool false) := (blk_cell BK157.out 3).trans rfl
    have hfs19 := blk_frozen BK157.out 3
    have hns19_1 := NB169_157.out
    have hms19_1 := NB157_169.out
    have hs20 : w15.cell? ⟨gb157, 4, none⟩ = some (.int .i64 0) := (blk_cell BK157.out 4).trans rfl
    have hfs20 := blk_frozen BK157.out 4
    have hns20_1 := NB169_157.out
    have hms20_1 := NB157_169.out
    have hs21 : w15.cell? ⟨gb157, 5, none⟩ = some (.int .i64 0) := (blk_cell BK157.out 5).trans rfl
    have hfs21 := blk_frozen BK157.out 5
    have hns21_1 := NB169_157.out
    have hms21_1 := NB157_169.out
    have hs22 : w15.cell? ⟨gb157, 6, none⟩ = some (.int .i64 0) := (blk_cell BK157.out 6).trans rfl
    have hfs22 := blk_frozen BK157.out 6
    have hns22_1 := NB169_157.out
    have hms22_1 := NB157_169.out
    have hs23 : w15.cell? ⟨gb157, 7, none⟩ = some (.int .u32 0) := (blk_cell BK157.out 7).trans rfl
    have hfs23 := blk_frozen BK157.out 7
    have hns23_1 := NB169_157.out
    have hms23_1 := NB157_169.out
    have hs24 : w15.cell? ⟨gb157, 8, none⟩ = some (.int .u32 0) := (blk_cell BK157.out 8).trans rfl
    have hfs24 := blk_frozen BK157.out 8
    have hns24_1 := NB169_157.out
    have hms24_1 := NB157_169.out
    have hs25 : w15.cell? ⟨gb157, 9, none⟩ = some (.string (⟨#[]⟩ : ByteArray)) := (blk_cell BK157.out 9).trans rfl
    have hfs25 := blk_frozen BK157.out 9
    have hns25_1 := NB169_157.out
    have hms25_1 := NB157_169.out
    refine skip_ (w1 := ?_) qgcr rfl ?_ ?_
    rotate_left
    ·go_simp
     rfl
    refine hK.out _ _ qplc (fun hHeld => ?_)
    clear hK K
    refine pu_49e (i := 3) (N := some 5) #[true, true, true, true] ?_
    refine done_ qg3m ?_
    try go_wp2_with (first | ((with_reducible refine gate_st (ty := 64) rfl ?_); refine storeC10 rfl rfl rfl rfl rfl qbna qr2c qg3m rfl ?_) | ((with_reducible refine gate_ld (ty := 64) rfl ?_); (try (with_reducible refine gate_gd rfl ?_; refine gate_guard q8ju ?_; dsimp only)); refine load_st rfl rfl rfl qbna qr2c Tryd.underlying64 rfl qg3m ?_; (try simp only [Act.put, List.setIfInBounds_toArray, List.set_cons_zero, List.set_cons_succ])) | go_in)
    refine bodyPost_ret (results_ct rfl _ _ gb157 64 #[.int .i64 t158, .int .i64 t159, .bool t160, .bool t161, .int .i64 t162, .int .i64 t163, .int .i64 t164, .int .u32 t165, .int .u32 t166, .string t167] (0, 0) _ rfl qg8i Tryd.underlying64 rfl qg3m) rfl ?_
    exact ⟨qxu5, q634⟩
   ·replace c13 := Bool.eq_false_iff.mpr c13
    subst c13
    rw [if_neg (show ¬ (false = true) by decide)] at H
    by_cases c26 : t166 = a0
    ·rw [if_pos c26] at H
     have c26b0 : (t166 == a0) = true := beq_iff_eq.mpr c26
     have c26b1 : (t166 != a0) = false := bne_eq_false_iff_eq.mpr c26
     clear c26
     replace H := Option.bind_eq_some_iff.mp H
     obtain ⟨t171, A270, H⟩ := H
     try dsimp only at H
     have A27 := Aside0.mk A270
     clear A270
     by_cases c28 : t171 = true
     ·subst c28
      rw [if_pos rfl] at H
      replace H := Option.bind_eq_some_iff.mp H
      obtain ⟨t172, A290, H⟩ := H
      try dsimp only at H
      have A29 := Aside0.mk A290
      clear A290
      simp only [Option.some.injEq, Prod.mk.injEq] at H
      obtain ⟨rfl, rfl, rfl, rfl, rfl, rfl, rfl, rfl, rfl, rfl, rfl⟩ := H
      have hnb30 := NB169_157.out
      have hnc30 := NB157_169.out
      obtain ⟨hcz31_0, hcz31_1, hcz31_2, hcz31_3, hcz31_4, hcz31_5, hcz31_6, hcz31_7, hcz31_8, hcz31_9⟩ := cells10 BK169.out
      obtain ⟨hfz31_0, hfz31_1, hfz31_2, hfz31_3, hfz31_4, hfz31_5, hfz31_6, hfz31_7, hfz31_8, hfz31_9⟩ := frozen10 BK169.out
      try go_wp2_with (first | ((with_reducible refine gate_st (ty := 64) rfl ?_); refine storeC10 rfl rfl rfl rfl rfl qbna qr2c qg3m rfl ?_) | ((with_reducible refine gate_ld (ty := 64) rfl ?_); (try (with_reducible refine gate_gd rfl ?_; refine gate_guard q8ju ?_; dsimp only)); refine load_st rfl rfl rfl qbna qr2c Tryd.underlying64 rfl qg3m ?_; (try simp only [Act.put, List.setIfInBounds_toArray, List.set_cons_zero, List.set_cons_succ])) | ((with_reducible refine gate_callee (f := 60) rfl ?_); refine goesL_ (some 32) rfl rfl Tryd.func60 qg3m rfl #[.agg #[.int .i64 t158, .int .i64 t159, .bool t160, .bool t161, .int .i64 t162, .int .i64 t163, .int .i64 t164, .int .u32 t165, .int .u32 t166, .string t167]] rfl qraq ?_; (with_reducible refine (inet_Part.calls t158 t159 t160 t161 t162 t163 t164 t165 t166 t167 true _ A27.out).mono ?_); rintro e w32 ⟨rfl, hb⟩; refine ⟨_, rfl, ?_⟩; replace BK157 := Aside0.mk (blk_below (g := gb157) q91p hb); replace BK169 := Aside0.mk (blk_below (g := gb169) quii hb); replace HB := Aside0.mk (below_step q634 hb); obtain ⟨hcy1_157_0, hcy1_157_1, hcy1_157_2, hcy1_157_3, hcy1_157_4, hcy1_157_5, hcy1_157_6, hcy1_157_7, hcy1_157_8, hcy1_157_9⟩ := cells10 BK157.out; (try clear hb); (try clear hb2); (try clear hk); (try clear hi)))
      replace BK157 := Aside0.mk (blk_drew BK157.out)
      replace BK169 := Aside0.mk (blk_drew BK169.out)
      replace HB := Aside0.mk (below_drew1 HB.out)
      refine start_ (n := 4) (S := fun w' => w'.cell? ⟨gb169, 0, none⟩ = some (.int .i64 t158) ∧ w'.cell? ⟨gb169, 1, none⟩ = some (.int .i64 t159) ∧ w'.cell? ⟨gb169, 2, none⟩ = some (.bool t160) ∧ w'.cell? ⟨gb169, 3, none⟩ = some (.bool t161) ∧ w'.cell? ⟨gb169, 4, none⟩ = some (.int .i64 t162) ∧ w'.cell? ⟨gb169, 5, none⟩ = some (.int .i64 t163) ∧ w'.cell? ⟨gb169, 6, none⟩ = some (.int .i64 t164) ∧ w'.cell? ⟨gb169, 7, none⟩ = some (.int .u32 t165) ∧ w'.cell? ⟨gb169, 8, none⟩ = some (.int .u32 t166) ∧ w'.cell? ⟨gb169, 9, none⟩ = some (.string t167)) (ds := []) #[false, false, false, false] qg3m rfl rfl ⟨(blk_cell BK169.out 0).trans rfl, (blk_cell BK169.out 1).trans rfl, (blk_cell BK169.out 2).trans rfl, (blk_cell BK169.out 3).trans rfl, (blk_cell BK169.out 4).trans rfl, (blk_cell BK169.out 5).trans rfl, (blk_cell BK169.out 6).trans rfl, (blk_cell BK169.out 7).trans rfl, (blk_cell BK169.out 8).trans rfl, (blk_cell BK169.out 9).trans rfl⟩ (fun hHeld => ?_)
      generalize w32.drew = w33 at BK157 BK169 HB hHeld ⊢
      refine tk_0f5 (i := 0) (N := some 33) #[true, false, false, false] hHeld ?_
      refine one_ (i := 1) (N := some 34) #[true, true, false, false] rfl rfl qg3m qomw (fun K hK => ?_)
      refine goes_ Tryd.func27 qg3m rfl #[.string (⟨#[112, 97, 99, 107, 101, 116]⟩ : ByteArray), .int .i64 5] qlo1 rfl rfl qraq ?_
      with_reducible refine (station_not.calls (⟨#[112, 97, 99, 107, 101, 116]⟩ : ByteArray) 5 t172 _ A29.out).mono ?_
      rintro e w' ⟨rfl, ⟨nd, rfl⟩⟩
      refine ⟨_, rfl, ?_⟩
      (try simp only [errW_none, errW_some])
      refine hK.out _ _ qy01 (fun hHeld => ?_)
      clear hK K
      refine norm_ (a' := ?_) ?_ ?_
      rotate_left
      ·show Act.put _ (some 34) _ = _
       simp only [Act.put, List.setIfInBounds_toArray, List.set_cons_zero, List.set_cons_succ, i64_w, i32_w]
       rfl
      refine one_ (i := 2) (N := none) #[true, true, true, false] rfl rfl qg3m qomw (fun K hK => ?_)
      have hs34 : w33.cell? ⟨gb157, 0, none⟩ = some (.int .i64 0) := (blk_cell BK157.out 0).trans rfl
      have hfs34 := blk_frozen BK157.out 0
      have hns34_1 := NB169_157.out
      have hms34_1 := NB157_169.out
      have hs35 : w33.cell? ⟨gb157, 1, none⟩ = some (.int .i64 0) := (blk_cell BK157.out 1).trans rfl
      have hfs35 := blk_frozen BK157.out 1
      have hns35_1 := NB169_157.out
      have hms35_1 := NB157_169.out
      have hs36 : w33.cell? ⟨gb157, 2, none⟩ = some (.bool false) := (blk_cell BK157.out 2).trans rfl
      have hfs36 := blk_frozen BK157.out 2
      have hns36_1 := NB169_157.out
      have hms36_1 := NB157_169.out
      have hs37 : w33.cell? ⟨gb157, 3, none⟩ = some (.bool false) := (blk_cell BK157.out 3).trans rfl
      have hfs37 := blk_frozen BK157.out 3
      have hns37_1 := NB169_157.out
      have hms37_1 := NB157_169.out
      have hs38 : w33.cell? ⟨gb157, 4, none⟩ = some (.int .i64 0) := (blk_cell BK157.out 4).trans rfl
      have hfs38 := blk_frozen BK157.out 4
      have hns38_1 := NB169_157.out
      have hms38_1 := NB157_169.out
      have hs39 : w33.cell? ⟨gb157, 5, none⟩ = some (.int .i64 0) := (blk_cell BK157.out 5).trans rfl
      have hfs39 := blk_frozen BK157.out 5
      have hns39_1 := NB169_157.out
      have hms39_1 := NB157_169.out
      have hs40 : w33.cell? ⟨gb157, 6, none⟩ = some (.int .i64 0) := (blk_cell BK157.out 6).trans rfl
      have hfs40 := blk_frozen BK157.out 6
      have hns40_1 := NB169_157.out
      have hms40_1 := NB157_169.out
      have hs41 : w33.cell? ⟨gb157, 7, none⟩ = some (.int .u32 0) := (blk_cell BK157.out 7).trans rfl
      have hfs41 := blk_frozen BK157.out 7
      have hns41_1 := NB169_157.out
      have hms41_1 := NB157_169.out
      have hs42 : w33.cell? ⟨gb157, 8, none⟩ = some (.int .u32 0) := (blk_cell BK157.out 8).trans rfl
      have hfs42 := blk_frozen BK157.out 8
      have hns42_1 := NB169_157.out
      have hms42_1 := NB157_169.out
      have hs43 : w33.cell? ⟨gb157, 9, none⟩ = some (.string (⟨#[]⟩ : ByteArray)) := (blk_cell BK157.out 9).trans rfl
      have hfs43 := blk_frozen BK157.out 9
      have hns43_1 := NB169_157.out
      have hms43_1 := NB157_169.out
      refine skip_ (w1 := ?_) qgcr rfl ?_ ?_
      rotate_left
      ·go_simp
       rfl
      refine hK.out _ _ qplc (fun hHeld => ?_)
      clear hK K
      refine pu_49e (i := 3) (N := some 5) #[true, true, true, true] ?_
      refine done_ qg3m ?_
      try go_wp2_with (first | ((with_reducible refine gate_st (ty := 64) rfl ?_); refine storeC10 rfl rfl rfl rfl rfl qbna qr2c qg3m rfl ?_) | ((with_reducible refine gate_ld (ty := 64) rfl ?_); (try (with_reducible refine gate_gd rfl ?_; refine gate_guard q8ju ?_; dsimp only)); refine load_st rfl rfl rfl qbna qr2c Tryd.underlying64 rfl qg3m ?_; (try simp only [Act.put, List.setIfInBounds_toArray, List.set_cons_zero, List.set_cons_succ])) | go_in)
      refine bodyPost_ret (results_ct rfl _ _ gb157 64 #[.int .i64 t158, .int .i64 t159, .bool t160, .bool t161, .int .i64 t162, .int .i64 t163, .int .i64 t164, .int .u32 t165, .int .u32 t166, .string t167] (0, 0) _ rfl qg8i Tryd.underlying64 rfl qg3m) rfl ?_
      exact ⟨qxu5, q634⟩
     ·replace c28 := Bool.eq_false_iff.mpr c28
      subst c28
      rw [if_neg (show ¬ (false = true) by decide)] at H
      simp only [Option.some.injEq, Prod.mk.injEq] at H
      obtain ⟨rfl, rfl, rfl, rfl, rfl, rfl, rfl, rfl, rfl, rfl, rfl⟩ := H
      have hnb44 := NB169_157.out
      have hnc44 := NB157_169.out
      obtain ⟨hcz45_0, hcz45_1, hcz45_2, hcz45_3, hcz45_4, hcz45_5, hcz45_6, hcz45_7, hcz45_8, hcz45_9⟩ := cells10 BK169.out
      obtain ⟨hfz45_0, hfz45_1, hfz45_2, hfz45_3, hfz45_4, hfz45_5, hfz45_6, hfz45_7, hfz45_8, hfz45_9⟩ := frozen10 BK169.out
      go_wp2_with (first | ((with_reducible refine gate_st (ty := 64) rfl ?_); refine storeC10 rfl rfl rfl rfl rfl qbna qr2c qg3m rfl ?_) | ((with_reducible refine gate_ld (ty := 64) rfl ?_); (try (with_reducible refine gate_gd rfl ?_; refine gate_guard q8ju ?_; dsimp only)); refine load_st rfl rfl rfl qbna qr2c Tryd.underlying64 rfl qg3m ?_; (try simp only [Act.put, List.setIfInBounds_toArray, List.set_cons_zero, List.set_cons_succ])) | ((with_reducible refine gate_callee (f := 60) rfl ?_); refine goesL_ (some 32) rfl rfl Tryd.func60 qg3m rfl #[.agg #[.int .i64 t158, .int .i64 t159, .bool t160, .bool t161, .int .i64 t162, .int .i64 t163, .int .i64 t164, .int .u32 t165, .int .u32 t166, .string t167]] rfl qraq ?_; (with_reducible refine (inet_Part.calls t158 t159 t160 t161 t162 t163 t164 t165 t166 t167 false _ A27.out).mono ?_); rintro e w46 ⟨rfl, hb⟩; refine ⟨_, rfl, ?_⟩; replace BK157 := Aside0.mk (blk_below (g := gb157) q91p hb); replace BK169 := Aside0.mk (blk_below (g := gb169) quii hb); replace HB := Aside0.mk (below_step q634 hb); (try clear hb); (try clear hb2); (try clear hk); (try clear hi); obtain ⟨hcz47_0, hcz47_1, hcz47_2, hcz47_3, hcz47_4, hcz47_5, hcz47_6, hcz47_7, hcz47_8, hcz47_9⟩ := cells10 BK169.out; obtain ⟨hfz47_0, hfz47_1, hfz47_2, hfz47_3, hfz47_4, hfz47_5, hfz47_6, hfz47_7, hfz47_8, hfz47_9⟩ := frozen10 BK169.out; obtain ⟨hcz48_0, hcz48_1, hcz48_2, hcz48_3, hcz48_4, hcz48_5, hcz48_6, hcz48_7, hcz48_8, hcz48_9⟩ := cells10 BK157.out; obtain ⟨hfz48_0, hfz48_1, hfz48_2, hfz48_3, hfz48_4, hfz48_5, hfz48_6, hfz48_7, hfz48_8, hfz48_9⟩ := frozen10 BK157.out))
      refine bodyPost_ret (results_ct rfl _ _ gb157 64 #[.int .i64 t158, .int .i64 t159, .bool t160, .bool t161, .int .i64 t162, .int .i64 t163, .int .i64 t164, .int .u32 t165, .int .u32 t166, .string t167] (0, 0) _ rfl qg8i Tryd.underlying64 rfl qg3m) rfl ?_
      exact ⟨qxu5, q634⟩
    ·rw [if_neg c26] at H
     have c26b0 : (t166 == a0) = false := beq_eq_false_iff_ne.mpr c26
     have c26b1 : (t166 != a0) = true := bne_iff_ne.mpr c26
     replace H := Option.bind_eq_some_iff.mp H
     obtain ⟨t173, A490, H⟩ := H
     try dsimp only at H
     have A49 := Aside0.mk A490
     clear A490
     simp only [Option.some.injEq, Prod.mk.injEq] at H
     obtain ⟨rfl, rfl, rfl, rfl, rfl, rfl, rfl, rfl, rfl, rfl, rfl⟩ := H
     have hnb50 := NB169_157.out
     have hnc50 := NB157_169.out
     obtain ⟨hcz51_0, hcz51_1, hcz51_2, hcz51_3, hcz51_4, hcz51_5, hcz51_6, hcz51_7, hcz51_8, hcz51_9⟩ := cells10 BK169.out
     obtain ⟨hfz51_0, hfz51_1, hfz51_2, hfz51_3, hfz51_4, hfz51_5, hfz51_6, hfz51_7, hfz51_8, hfz51_9⟩ := frozen10 BK169.out
     try go_wp2_with (first | ((with_reducible refine gate_st (ty := 64) rfl ?_); refine storeC10 rfl rfl rfl rfl rfl qbna qr2c qg3m rfl ?_) | ((with_reducible refine gate_ld (ty := 64) rfl ?_); (try (with_reducible refine gate_gd rfl ?_; refine gate_guard q8ju ?_; dsimp only)); refine load_st rfl rfl rfl qbna qr2c Tryd.underlying64 rfl qg3m ?_; (try simp only [Act.put, List.setIfInBounds_toArray, List.set_cons_zero, List.set_cons_succ])) | go_in)
     replace BK157 := Aside0.mk (blk_drew BK157.out)
     replace BK169 := Aside0.mk (blk_drew BK169.out)
     replace HB := Aside0.mk (below_drew1 HB.out)
     refine start_ (n := 4) (S := fun w' => w'.cell? ⟨gb169, 0, none⟩ = some (.int .i64 t158) ∧ w'.cell? ⟨gb169, 1, none⟩ = some (.int .i64 t159) ∧ w'.cell? ⟨gb169, 2, none⟩ = some (.bool t160) ∧ w'.cell? ⟨gb169, 3, none⟩ = some (.bool t161) ∧ w'.cell? ⟨gb169, 4, none⟩ = some (.int .i64 t162) ∧ w'.cell? ⟨gb169, 5, none⟩ = some (.int .i64 t163) ∧ w'.cell? ⟨gb169, 6, none⟩ = some (.int .i64 t164) ∧ w'.cell? ⟨gb169, 7, none⟩ = some (.int .u32 t165) ∧ w'.cell? ⟨gb169, 8, none⟩ = some (.int .u32 t166) ∧ w'.cell? ⟨gb169, 9, none⟩ = some (.string t167)) (ds := []) #[false, false, false, false] qg3m rfl rfl ⟨(blk_cell BK169.out 0).trans rfl, (blk_cell BK169.out 1).trans rfl, (blk_cell BK169.out 2).trans rfl, (blk_cell BK169.out 3).trans rfl, (blk_cell BK169.out 4).trans rfl, (blk_cell BK169.out 5).trans rfl, (blk_cell BK169.out 6).trans rfl, (blk_cell BK169.out 7).trans rfl, (blk_cell BK169.out 8).trans rfl, (blk_cell BK169.out 9).trans rfl⟩ (fun hHeld => ?_)
     generalize wc.drew = w52 at BK157 BK169 HB hHeld ⊢
     refine tk_0f5 (i := 0) (N := some 28) #[true, false, false, false] hHeld ?_
     refine one_ (i := 1) (N := some 29) #[true, true, false, false] rfl rfl qg3m qomw (fun K hK => ?_)
     refine goes_ Tryd.func27 qg3m rfl #[.string (⟨#[112, 97, 99, 107, 101, 116]⟩ : ByteArray), .int .i64 2] qlo1 rfl rfl qraq ?_
     with_reducible refine (station_not.calls (⟨#[112, 97, 99, 107, 101, 116]⟩ : ByteArray) 2 t173 _ A49.out).mono ?_
     rintro e w' ⟨rfl, ⟨nd, rfl⟩⟩
     refine ⟨_, rfl, ?_⟩
     (try simp only [errW_none, errW_some])
     refine hK.out _ _ qy01 (fun hHeld => ?_)
     clear hK K
     refine norm_ (a' := ?_) ?_ ?_
     rotate_left
     ·show Act.put _ (some 29) _ = _
      simp only [Act.put, List.setIfInBounds_toArray, List.set_cons_zero, List.set_cons_succ, i64_w, i32_w]
      rfl
     refine one_ (i := 2) (N := none) #[true, true, true, false] rfl rfl qg3m qomw (fun K hK => ?_)
     have hs53 : w52.cell? ⟨gb157, 0, none⟩ = some (.int .i64 0) := (blk_cell BK157.out 0).trans rfl
     have hfs53 := blk_frozen BK157.out 0
     have hns53_1 := NB169_157.out
     have hms53_1 := NB157_169.out
     have hs54 : w52.cell? ⟨gb157, 1, none⟩ = some (.int .i64 0) := (blk_cell BK157.out 1).trans rfl
     have hfs54 := blk_frozen BK157.out 1
     have hns54_1 := NB169_157.out
     have hms54_1 := NB157_169.out
     have hs55 : w52.cell? ⟨gb157, 2, none⟩ = some (.bool false) := (blk_cell BK157.out 2).trans rfl
     have hfs55 := blk_frozen BK157.out 2
     have hns55_1 := NB169_157.out
     have hms55_1 := NB157_169.out
     have hs56 : w52.cell? ⟨gb157, 3, none⟩ = some (.bool false) := (blk_cell BK157.out 3).trans rfl
     have hfs56 := blk_frozen BK157.out 3
     have hns56_1 := NB169_157.out
     have hms56_1 := NB157_169.out
     have hs57 : w52.cell? ⟨gb157, 4, none⟩ = some (.int .i64 0) := (blk_cell BK157.out 4).trans rfl
     have hfs57 := blk_frozen BK157.out 4
     have hns57_1 := NB169_157.out
     have hms57_1 := NB157_169.out
     have hs58 : w52.cell? ⟨gb157, 5, none⟩ = some (.int .i64 0) := (blk_cell BK157.out 5).trans rfl
     have hfs58 := blk_frozen BK157.out 5
     have hns58_1 := NB169_157.out
     have hms58_1 := NB157_169.out
     have hs59 : w52.cell? ⟨gb157, 6, none⟩ = some (.int .i64 0) := (blk_cell BK157.out 6).trans rfl
     have hfs59 := blk_frozen BK157.out 6
     have hns59_1 := NB169_157.out
     have hms59_1 := NB157_169.out
     have hs60 : w52.cell? ⟨gb157, 7, none⟩ = some (.int .u32 0) := (blk_cell BK157.out 7).trans rfl
     have hfs60 := blk_frozen BK157.out 7
     have hns60_1 := NB169_157.out
     have hms60_1 := NB157_169.out
     have hs61 : w52.cell? ⟨gb157, 8, none⟩ = some (.int .u32 0) := (blk_cell BK157.out 8).trans rfl
     have hfs61 := blk_frozen BK157.out 8
     have hns61_1 := NB169_157.out
     have hms61_1 := NB157_169.out
     have hs62 : w52.cell? ⟨gb157, 9, none⟩ = some (.string (⟨#[]⟩ : ByteArray)) := (blk_cell BK157.out 9).trans rfl
     have hfs62 := blk_frozen BK157.out 9
     have hns62_1 := NB169_157.out
     have hms62_1 := NB157_169.out
     refine skip_ (w1 := ?_) qgcr rfl ?_ ?_
     rotate_left
     ·go_simp
      rfl
     refine hK.out _ _ qplc (fun hHeld => ?_)
     clear hK K
     refine pu_49e (i := 3) (N := some 5) #[true, true, true, true] ?_
     refine done_ qg3m ?_
     try go_wp2_with (first | ((with_reducible refine gate_st (ty := 64) rfl ?_); refine storeC10 rfl rfl rfl rfl rfl qbna qr2c qg3m rfl ?_) | ((with_reducible refine gate_ld (ty := 64) rfl ?_); (try (with_reducible refine gate_gd rfl ?_; refine gate_guard q8ju ?_; dsimp only)); refine load_st rfl rfl rfl qbna qr2c Tryd.underlying64 rfl qg3m ?_; (try simp only [Act.put, List.setIfInBounds_toArray, List.set_cons_zero, List.set_cons_succ])) | go_in)
     refine bodyPost_ret (results_ct rfl _ _ gb157 64 #[.int .i64 t158, .int .i64 t159, .bool t160, .bool t161, .int .i64 t162, .int .i64 t163, .int .i64 t164, .int .u32 t165, .int .u32 t166, .string t167] (0, 0) _ rfl qg8i Tryd.underlying64 rfl qg3m) rfl ?_
     exact ⟨qxu5, q634⟩

end Go.Proofs.YtbkgaplldfilnaaDoor.P
