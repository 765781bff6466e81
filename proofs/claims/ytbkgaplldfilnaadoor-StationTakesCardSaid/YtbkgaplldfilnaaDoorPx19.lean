-- slim
-- Written by wip/hprint.py (this session's program) through the kit's print program; hand contracts are marked 'by hand'.
import Derived.Test.YtbkgaplldfilnaaDoorAbb
import Derived.Test.YtbkgaplldfilnaaDoorRow
import Derived.Test.YtbkgaplldfilnaaDoorPx0
import Derived.Test.YtbkgaplldfilnaaDoorPx30
namespace Go.Proofs.YtbkgaplldfilnaaDoor.P
open Go.RowKit Go.Proofs.YtbkgaplldfilnaaDoorW.PrintWords Go.Proofs.YtbkgaplldfilnaaDoorW.PrintLast Go.Proofs.YtbkgaplldfilnaaDoorW.PrintMore
attribute [local go_sem] max2_int min2_int max_two min_two max_three min_three max_four min_four   -- for this text's walks alone
set_option linter.unusedVariables false
set_option linter.unusedSimpArgs false

theorem qy0m {p : Prop} (h : p := by (with_reducible repeat (first | refine blk_drewN ?_ _ | refine blk_drew ?_ | refine blk_alloc ?_ _)); exact BK203.out) : p := h
theorem qe0h {p : Prop} (h : p := by (with_reducible repeat (first | refine blk_drewN ?_ _ | refine blk_drew ?_ | refine blk_alloc ?_ _)); exact BK204.out) : p := h
theorem q34z {p : Prop} (h : p := by (with_reducible repeat (first | refine blk_drewN ?_ _ | refine blk_drew ?_ | refine blk_alloc ?_ _)); exact BK210.out) : p := h
theorem qwla {p : Prop} (h : p := by exact ⟨(blk_cell BK210.out 0).trans rfl, (blk_cell BK210.out 1).trans rfl, (blk_cell BK210.out 2).trans rfl, (blk_cell BK210.out 3).trans rfl⟩) : p := h
theorem qmji {p : Prop} (h : p := by (with_reducible repeat (first | refine blk_drewN ?_ _ | refine blk_drew ?_ | refine blk_alloc ?_ _ | refine blk_far ?_ NB203_210.out _)); exact BK203.out) : p := h
theorem q51m {p : Prop} (h : p := by (with_reducible repeat (first | refine blk_drewN ?_ _ | refine blk_drew ?_ | refine blk_alloc ?_ _ | refine blk_far ?_ NB204_210.out _)); exact BK204.out) : p := h
theorem qh3g {p : Prop} (h : p := by repeat (first | (with_reducible first | exact HB.out | apply below_alloc | apply pw_below_drewN | apply below_drew1 | refine below_set ?_ GE203.out) | exact HB.out)) : p := h
theorem qrj9 {p : Prop} (h : p := by repeat (first | (with_reducible first | exact HB.out | apply below_alloc | apply pw_below_drewN | apply below_drew1 | refine below_set ?_ GE203.out | refine below_set ?_ GE204.out) | exact HB.out)) : p := h
theorem q0kn {p : Prop} (h : p := by with_reducible repeat (first | (apply blk_far; case hp => assumption) | apply blk_set | refine blk_drewN ?_ _ | refine blk_drew ?_ | refine blk_alloc ?_ _ | exact BK203.out | exact BK204.out | exact BK210.out)) : p := h
theorem qn99 {p : Prop} (h : p := by repeat (first | (with_reducible first | exact HB.out | apply below_alloc | apply pw_below_drewN | apply below_drew1 | refine below_set ?_ GE203.out | refine below_set ?_ GE204.out | refine below_set ?_ GE210.out) | exact HB.out)) : p := h
theorem q0ie {p : Prop} (h : p := by exact ⟨((cell_far (p := ⟨gb204, _, none⟩) NB210_204.out _).trans (((cell_far (p := ⟨gb204, _, none⟩) NB210_204.out _).trans (((cell_far (p := ⟨gb204, _, none⟩) NB210_204.out _).trans (((cell_far (p := ⟨gb204, _, none⟩) NB210_204.out _).trans (hHeld.1)))))))), ((cell_far (p := ⟨gb204, _, none⟩) NB210_204.out _).trans (((cell_far (p := ⟨gb204, _, none⟩) NB210_204.out _).trans (((cell_far (p := ⟨gb204, _, none⟩) NB210_204.out _).trans (((cell_far (p := ⟨gb204, _, none⟩) NB210_204.out _).trans (hHeld.2.1)))))))), ((cell_far (p := ⟨gb204, _, none⟩) NB210_204.out _).trans (((cell_far (p := ⟨gb204, _, none⟩) NB210_204.out _).trans (((cell_far (p := ⟨gb204, _, none⟩) NB210_204.out _).trans (((cell_far (p := ⟨gb204, _, none⟩) NB210_204.out _).trans (hHeld.2.2.1)))))))), ((cell_far (p := ⟨gb204, _, none⟩) NB210_204.out _).trans (((cell_far (p := ⟨gb204, _, none⟩) NB210_204.out _).trans (((cell_far (p := ⟨gb204, _, none⟩) NB210_204.out _).trans (((cell_far (p := ⟨gb204, _, none⟩) NB210_204.out _).trans (hHeld.2.2.2))))))))⟩) : p := h
theorem q5n2 {p : Prop} (h : p := by (with_reducible repeat (first | refine blk_drewN ?_ _ | refine blk_drew ?_ | refine blk_alloc ?_ _)); exact put4_0_4 qe0h) : p := h
theorem q2bt {p : Prop} (h : p := by (with_reducible repeat (first | refine blk_drewN ?_ _ | refine blk_drew ?_ | refine blk_alloc ?_ _)); exact put4_0_4 q34z) : p := h
/-! ### station_datagram: function 31 -/
def station_datagram.j0 : Nat → Bool → Int → Int → Bool → ByteArray → Option (Int × Int × Bool × ByteArray × Option Int)
 | 0, _, _, _, _, _ => none
 | k + 1, x16, x211000, x211001, x211002, x211003 => if x16 = true then ((station_not.f (⟨#[100, 97, 116, 97, 103, 114, 97, 109]⟩ : ByteArray) 6).bind fun t211 => (some (x211000, x211001, x211002, x211003, t211))) else (if x211001 = 4789 then (some (x211000, x211001, x211002, x211003, none)) else ((station_not.f (⟨#[100, 97, 116, 97, 103, 114, 97, 109]⟩ : ByteArray) 7).bind fun t212 => (some (x211000, x211001, x211002, x211003, t212))))
def station_datagram.f (k : Nat) (a0_0 : Int) (a0_1 : Int) (a0_2 : Bool) (a0_3 : Bool) (a0_4 : Int) (a0_5 : Int) (a0_6 : Int) (a0_7 : Int) (a0_8 : Int) (a0_9 : ByteArray) : Option (Int × Int × Bool × ByteArray × Option Int) := (udp_Parse.f k a0_7 a0_8 a0_9).bind fun bt205 => (if a0_6 = 17 then (station_datagram.j0 k (bt205.2.2.2.2 != 0) bt205.1 bt205.2.1 bt205.2.2.1 bt205.2.2.2.1) else (station_datagram.j0 k true bt205.1 bt205.2.1 bt205.2.2.1 bt205.2.2.2.1))
theorem station_datagram.mono_l : ∀ k, (∀ y0 y1 y2 y3 y4, LeO (station_datagram.j0 k y0 y1 y2 y3 y4) (station_datagram.j0 (k + 1) y0 y1 y2 y3 y4))
 | 0 => fun _ _ _ _ _ r h => by simp [station_datagram.j0] at h
 | k + 1 => by
  have ih0 := station_datagram.mono_l k
  ·intro y0 y1 y2 y3 y4
   unfold station_datagram.j0
   repeat' first
   | (with_reducible exact ih0 _ _ _ _ _)
   | (with_reducible exact udp_Parse.mono _ _ _ _)
   | (with_reducible exact LeO.refl _)
   | (with_reducible exact LeO.none _)
   | (with_reducible refine LeO.ite ?_ ?_)
   | (with_reducible refine LeO.bind ?_ (fun _ => ?_))
   | exact ih0 _ _ _ _ _
   | exact udp_Parse.mono _ _ _ _
   | exact LeO.none _
   | refine LeO.ite ?_ ?_
   | refine LeO.bind ?_ (fun _ => ?_)
theorem station_datagram.mono : ∀ a0 a1 a2 a3 a4 a5 a6 a7 a8 a9 k, LeO (station_datagram.f k a0 a1 a2 a3 a4 a5 a6 a7 a8 a9) (station_datagram.f (k + 1) a0 a1 a2 a3 a4 a5 a6 a7 a8 a9) := by
 intro a0 a1 a2 a3 a4 a5 a6 a7 a8 a9 k
 have ih0 := station_datagram.mono_l k
 unfold station_datagram.f
 repeat' first
   | (with_reducible exact ih0 _ _ _ _ _)
   | (with_reducible exact udp_Parse.mono _ _ _ _)
   | (with_reducible exact LeO.refl _)
   | (with_reducible exact LeO.none _)
   | (with_reducible refine LeO.ite ?_ ?_)
   | (with_reducible refine LeO.bind ?_ (fun _ => ?_))
   | exact ih0 _ _ _ _ _
   | exact udp_Parse.mono _ _ _ _
   | exact LeO.none _
   | refine LeO.ite ?_ ?_
   | refine LeO.bind ?_ (fun _ => ?_)
set_option maxHeartbeats 8000000 in
set_option maxRecDepth 100000 in
theorem station_datagram.calls (k : Nat) (a0_0 : Int) (a0_1 : Int) (a0_2 : Bool) (a0_3 : Bool) (a0_4 : Int) (a0_5 : Int) (a0_6 : Int) (a0_7 : Int) (a0_8 : Int) (a0_9 : ByteArray) (r1 : Int) (r2 : Int) (r3 : Bool) (r4 : ByteArray) (r5 : Option Int) (w : World) (h : station_datagram.f k a0_0 a0_1 a0_2 a0_3 a0_4 a0_5 a0_6 a0_7 a0_8 a0_9 = some (r1, r2, r3, r4, r5)) :
  Calls Tryd.prog 31 #[.agg #[.int .i64 a0_0, .int .i64 a0_1, .bool a0_2, .bool a0_3, .int .i64 a0_4, .int .i64 a0_5, .int .i64 a0_6, .int .u32 a0_7, .int .u32 a0_8, .string a0_9]] w fun e w' => e = .returned (.tuple #[.agg #[.int .i64 r1, .int .i64 r2, .bool r3, .string r4], errW r5]) ∧ Below w.heap.size w w' := by
 have hu64 := Tryd.underlying64
 have hu31 := Tryd.underlying31
 have HB := Aside0.mk (Below.refl w.heap.size w)
 have H := h
 unfold station_datagram.f at H
 clear h
 replace H := Option.bind_eq_some_iff.mp H
 obtain ⟨⟨t205, t206, t207, t208, t209⟩, A20, H⟩ := H
 try dsimp only at H
 have A2 := Aside0.mk A20
 clear A20
 have HC3 := Aside0.mk H
 clear H
 go_enter Tryd.func31, Tryd.ntmps31
 go_upto_region 2 with (first | ((with_reducible refine gate_st (ty := 64) rfl ?_); refine storeC10 rfl rfl rfl rfl rfl q0kn qr2c qg3m rfl ?_) | ((with_reducible refine gate_ld (ty := 64) rfl ?_); (try (with_reducible refine gate_gd rfl ?_; refine gate_guard q8ju ?_; dsimp only)); refine load_st rfl rfl rfl q0kn qr2c Tryd.underlying64 rfl qg3m ?_; (try simp only [Act.put, List.setIfInBounds_toArray, List.set_cons_zero, List.set_cons_succ])) | ((with_reducible refine gate_dst (N := 1) rfl ?_); refine box_event qgcr (N := 1) qgcr (cs := #[.int .i64 a0_0, .int .i64 a0_1, .bool a0_2, .bool a0_3, .int .i64 a0_4, .int .i64 a0_5, .int .i64 a0_6, .int .u32 a0_7, .int .u32 a0_8, .string a0_9]) (t := 64) qlto ?_; intro gb203 hg w4 hbox hb; have BK203 := Aside0.mk (hbox); have GE203 := Aside0.mk ((qisx : w.heap.size ≤ gb203)); replace HB := Aside0.mk (below_step qpag hb); clear hb hbox hg) | ((with_reducible refine gate_dst (N := 2) rfl ?_); refine box_event qgcr (N := 2) qgcr (cs := #[.int .i64 0, .int .i64 0, .bool false, .string (⟨#[]⟩ : ByteArray)]) (t := 31) qlto ?_; intro gb204 hg w5 hbox hb; have BK204 := Aside0.mk (hbox); have GE204 := Aside0.mk ((by rw [hg]; exact (below_size qh3g) : w.heap.size ≤ gb204)); have NB203_204 := Aside0.mk ((by rw [hg]; exact Nat.ne_of_lt (blk_lt (g := gb203) qy0m) : gb203 ≠ gb204)); have NB204_203 := Aside0.mk ((by rw [hg]; exact Nat.ne_of_gt (blk_lt (g := gb203) qy0m) : gb204 ≠ gb203)); replace BK203 := Aside0.mk (blk_below (g := gb203) qy0m hb); replace HB := Aside0.mk (below_step qh3g hb); clear hb hbox hg; have hnb6 := NB203_204.out; have hnc6 := NB204_203.out; obtain ⟨hcz7_0, hcz7_1, hcz7_2, hcz7_3, hcz7_4, hcz7_5, hcz7_6, hcz7_7, hcz7_8, hcz7_9⟩ := cells10 BK203.out; obtain ⟨hfz7_0, hfz7_1, hfz7_2, hfz7_3, hfz7_4, hfz7_5, hfz7_6, hfz7_7, hfz7_8, hfz7_9⟩ := frozen10 BK203.out) | ((with_reducible refine gate_callee (f := 61) rfl ?_); refine goesL_ (some 13) rfl rfl Tryd.func61 qg3m rfl #[.int .u32 a0_7, .int .u32 a0_8, .string a0_9] rfl qraq ?_; (with_reducible refine (udp_Parse.calls k a0_7 a0_8 a0_9 t205 t206 t207 t208 t209 _ A2.out).mono ?_); rintro e w8 ⟨rfl, hb⟩; refine ⟨_, rfl, ?_⟩; replace BK203 := Aside0.mk (blk_below (g := gb203) qy0m hb); replace BK204 := Aside0.mk (blk_below (g := gb204) qe0h hb); replace HB := Aside0.mk (below_step qrj9 hb); (try clear hb); (try clear hb2); (try clear hk); (try clear hi)) | ((with_reducible refine gate_dst (N := 4) rfl ?_); refine box_event qgcr (N := 4) qgcr (cs := #[.int .i64 0, .int .i64 0, .bool false, .string (⟨#[]⟩ : ByteArray)]) (t := 31) qlto ?_; intro gb210 hg w9 hbox hb; have BK210 := Aside0.mk (hbox); have GE210 := Aside0.mk ((by rw [hg]; exact (below_size qrj9) : w.heap.size ≤ gb210)); have NB203_210 := Aside0.mk ((by rw [hg]; exact Nat.ne_of_lt (blk_lt (g := gb203) qy0m) : gb203 ≠ gb210)); have NB210_203 := Aside0.mk ((by rw [hg]; exact Nat.ne_of_gt (blk_lt (g := gb203) qy0m) : gb210 ≠ gb203)); have NB204_210 := Aside0.mk ((by rw [hg]; exact Nat.ne_of_lt (blk_lt (g := gb204) qe0h) : gb204 ≠ gb210)); have NB210_204 := Aside0.mk ((by rw [hg]; exact Nat.ne_of_gt (blk_lt (g := gb204) qe0h) : gb210 ≠ gb204)); replace BK203 := Aside0.mk (blk_below (g := gb203) qy0m hb); replace BK204 := Aside0.mk (blk_below (g := gb204) qe0h hb); replace HB := Aside0.mk (below_step qrj9 hb); clear hb hbox hg; have hnb10 := NB210_203.out; have hnc10 := NB203_210.out; have hnb11 := NB210_204.out; have hnc11 := NB204_210.out; obtain ⟨hcz12_0, hcz12_1, hcz12_2, hcz12_3⟩ := cells4 BK210.out; obtain ⟨hfz12_0, hfz12_1, hfz12_2, hfz12_3⟩ := frozen4 BK210.out))
 (try simp only [Act.put, List.setIfInBounds_toArray, List.set_cons_zero, List.set_cons_succ])
 go_cut [16] (fun v16 wc => ∃ (kq : Nat) (x16_2 : Bool), v16 = .bool x16_2 ∧ Aside0 (station_datagram.j0 kq x16_2 t205 t206 t207 t208 = some (r1, r2, r3, r4, r5)) ∧ Aside0 (kq ≤ k) ∧ Aside0 (wc.heap[gb203]? = some (.cells #[.int .i64 a0_0, .int .i64 a0_1, .bool a0_2, .bool a0_3, .int .i64 a0_4, .int .i64 a0_5, .int .i64 a0_6, .int .u32 a0_7, .int .u32 a0_8, .string a0_9] 64 (0, 0))) ∧ Aside0 (wc.heap[gb204]? = some (.cells #[.int .i64 0, .int .i64 0, .bool false, .string (⟨#[]⟩ : ByteArray)] 31 (0, 0))) ∧ Aside0 (wc.heap[gb210]? = some (.cells #[.int .i64 t205, .int .i64 t206, .bool t207, .string t208] 31 (0, 0))) ∧ Aside0 (Below w.heap.size w wc))
 case first =>
  have H := HC3.out
  clear HC3
  by_cases c13 : a0_6 = 17
  ·rw [if_pos c13] at H
   have c13b0 : (a0_6 == 17) = true := beq_iff_eq.mpr c13
   have c13b1 : (a0_6 != 17) = false := bne_eq_false_iff_eq.mpr c13
   clear c13
   (first | rw [c13b0] | (simp only [i64_w, i32_w]; rw [c13b0]) | skip)
   have H' := Aside0.mk H
   clear H
   have hnb14 := NB203_204.out
   have hnc14 := NB204_203.out
   have hnb15 := NB203_210.out
   have hnc15 := NB210_203.out
   obtain ⟨hcz16_0, hcz16_1, hcz16_2, hcz16_3, hcz16_4, hcz16_5, hcz16_6, hcz16_7, hcz16_8, hcz16_9⟩ := cells10 BK203.out
   obtain ⟨hfz16_0, hfz16_1, hfz16_2, hfz16_3, hfz16_4, hfz16_5, hfz16_6, hfz16_7, hfz16_8, hfz16_9⟩ := frozen10 BK203.out
   go_wp2_with (first | ((with_reducible refine gate_st (ty := 64) rfl ?_); refine storeC10 rfl rfl rfl rfl rfl q0kn qr2c qg3m rfl ?_) | ((with_reducible refine gate_ld (ty := 64) rfl ?_); (try (with_reducible refine gate_gd rfl ?_; refine gate_guard q8ju ?_; dsimp only)); refine load_st rfl rfl rfl q0kn qr2c Tryd.underlying64 rfl qg3m ?_; (try simp only [Act.put, List.setIfInBounds_toArray, List.set_cons_zero, List.set_cons_succ])) | go_in)
   go_meet
   case rel => exact ⟨_, ((t209 != 0)), q8z4, H', ⟨qpfc⟩, ⟨qmji⟩, ⟨q51m⟩, ⟨q2bt⟩, ⟨qn99⟩⟩
  ·rw [if_neg c13] at H
   have c13b0 : (a0_6 == 17) = false := beq_eq_false_iff_ne.mpr c13
   have c13b1 : (a0_6 != 17) = true := bne_iff_ne.mpr c13
   (first | rw [c13b0] | (simp only [i64_w, i32_w]; rw [c13b0]) | skip)
   have H' := Aside0.mk H
   clear H
   have hnb17 := NB203_204.out
   have hnc17 := NB204_203.out
   have hnb18 := NB203_210.out
   have hnc18 := NB210_203.out
   obtain ⟨hcz19_0, hcz19_1, hcz19_2, hcz19_3, hcz19_4, hcz19_5, hcz19_6, hcz19_7, hcz19_8, hcz19_9⟩ := cells10 BK203.out
   obtain ⟨hfz19_0, hfz19_1, hfz19_2, hfz19_3, hfz19_4, hfz19_5, hfz19_6, hfz19_7, hfz19_8, hfz19_9⟩ := frozen10 BK203.out
   go_wp2_with (first | ((with_reducible refine gate_st (ty := 64) rfl ?_); refine storeC10 rfl rfl rfl rfl rfl q0kn qr2c qg3m rfl ?_) | ((with_reducible refine gate_ld (ty := 64) rfl ?_); (try (with_reducible refine gate_gd rfl ?_; refine gate_guard q8ju ?_; dsimp only)); refine load_st rfl rfl rfl q0kn qr2c Tryd.underlying64 rfl qg3m ?_; (try simp only [Act.put, List.setIfInBounds_toArray, List.set_cons_zero, List.set_cons_succ])) | go_in)
   go_meet
   case rel => exact ⟨_, (true), q8z4, H', ⟨qpfc⟩, ⟨qmji⟩, ⟨q51m⟩, ⟨q2bt⟩, ⟨qn99⟩⟩
 case rest =>
  clear HC3
  try clear c1
  try clear p2
  try clear c3
  try clear c6
  try clear c10
  try clear c11
  try clear c13
  try clear c13b0
  try clear c13b1
  try clear c14
  try clear c15
  try clear c17
  try clear c18
  obtain ⟨kq, x16_2, rfl, HA, HJ2, BK203, BK204, BK210, HB⟩ := hcut
  cases kq with
  | zero => exact absurd HA.out (by simp [station_datagram.j0])
  | succ kj2 =>
   have H := HA.out
   clear HA
   simp only [station_datagram.j0] at H
   by_cases c20 : x16_2 = true
   ·subst c20
    rw [if_pos rfl] at H
    replace H := Option.bind_eq_some_iff.mp H
    obtain ⟨t211, A210, H⟩ := H
    try dsimp only at H
    have A21 := Aside0.mk A210
    clear A210
    simp only [Option.some.injEq, Prod.mk.injEq] at H
    obtain ⟨rfl, rfl, rfl, rfl, rfl⟩ := H
    try go_wp2_with (first | ((with_reducible refine gate_st (ty := 64) rfl ?_); refine storeC10 rfl rfl rfl rfl rfl q0kn qr2c qg3m rfl ?_) | ((with_reducible refine gate_ld (ty := 64) rfl ?_); (try (with_reducible refine gate_gd rfl ?_; refine gate_guard q8ju ?_; dsimp only)); refine load_st rfl rfl rfl q0kn qr2c Tryd.underlying64 rfl qg3m ?_; (try simp only [Act.put, List.setIfInBounds_toArray, List.set_cons_zero, List.set_cons_succ])) | go_in)
    replace BK203 := Aside0.mk (blk_drew BK203.out)
    replace BK204 := Aside0.mk (blk_drew BK204.out)
    replace BK210 := Aside0.mk (blk_drew BK210.out)
    replace HB := Aside0.mk (below_drew1 HB.out)
    refine start_ (n := 4) (S := fun w' => w'.cell? ⟨gb210, 0, none⟩ = some (.int .i64 t205) ∧ w'.cell? ⟨gb210, 1, none⟩ = some (.int .i64 t206) ∧ w'.cell? ⟨gb210, 2, none⟩ = some (.bool t207) ∧ w'.cell? ⟨gb210, 3, none⟩ = some (.string t208)) (ds := []) #[false, false, false, false] qg3m rfl rfl ⟨(blk_cell BK210.out 0).trans rfl, (blk_cell BK210.out 1).trans rfl, (blk_cell BK210.out 2).trans rfl, (blk_cell BK210.out 3).trans rfl⟩ (fun hHeld => ?_)
    generalize wc.drew = w22 at BK203 BK204 BK210 HB hHeld ⊢
    refine tk_992 (i := 0) (N := some 24) #[true, false, false, false] hHeld ?_
    refine one_ (i := 1) (N := some 25) #[true, true, false, false] rfl rfl qg3m qomw (fun K hK => ?_)
    refine goes_ Tryd.func27 qg3m rfl #[.string (⟨#[100, 97, 116, 97, 103, 114, 97, 109]⟩ : ByteArray), .int .i64 6] qlo1 rfl rfl qraq ?_
    with_reducible refine (station_not.calls (⟨#[100, 97, 116, 97, 103, 114, 97, 109]⟩ : ByteArray) 6 t211 _ A21.out).mono ?_
    rintro e w' ⟨rfl, ⟨nd, rfl⟩⟩
    refine ⟨_, rfl, ?_⟩
    (try simp only [errW_none, errW_some])
    refine hK.out _ _ qwla (fun hHeld => ?_)
    clear hK K
    refine norm_ (a' := ?_) ?_ ?_
    rotate_left
    ·show Act.put _ (some 25) _ = _
     simp only [Act.put, List.setIfInBounds_toArray, List.set_cons_zero, List.set_cons_succ, i64_w, i32_w]
     rfl
    refine one_ (i := 2) (N := none) #[true, true, true, false] rfl rfl qg3m qomw (fun K hK => ?_)
    have hs23 : w22.cell? ⟨gb204, 0, none⟩ = some (.int .i64 0) := (blk_cell BK204.out 0).trans rfl
    have hfs23 := blk_frozen BK204.out 0
    have hns23_0 := NB203_204.out
    have hns23_2 := NB210_204.out
    have hms23_0 := NB204_203.out
    have hms23_2 := NB204_210.out
    have hs24 : w22.cell? ⟨gb204, 1, none⟩ = some (.int .i64 0) := (blk_cell BK204.out 1).trans rfl
    have hfs24 := blk_frozen BK204.out 1
    have hns24_0 := NB203_204.out
    have hns24_2 := NB210_204.out
    have hms24_0 := NB204_203.out
    have hms24_2 := NB204_210.out
    have hs25 : w22.cell? ⟨gb204, 2, none⟩ = some (.bool false) := (blk_cell BK204.out 2).trans rfl
    have hfs25 := blk_frozen BK204.out 2
    have hns25_0 := NB203_204.out
    have hns25_2 := NB210_204.out
    have hms25_0 := NB204_203.out
    have hms25_2 := NB204_210.out
    have hs26 : w22.cell? ⟨gb204, 3, none⟩ = some (.string (⟨#[]⟩ : ByteArray)) := (blk_cell BK204.out 3).trans rfl
    have hfs26 := blk_frozen BK204.out 3
    have hns26_0 := NB203_204.out
    have hns26_2 := NB210_204.out
    have hms26_0 := NB204_203.out
    have hms26_2 := NB204_210.out
    refine skip_ (w1 := ?_) qgcr rfl ?_ ?_
    rotate_left
    ·go_simp
     rfl
    refine hK.out _ _ q0ie (fun hHeld => ?_)
    clear hK K
    refine pu_49e (i := 3) (N := some 3) #[true, true, true, true] ?_
    refine done_ qg3m ?_
    try go_wp2_with (first | ((with_reducible refine gate_st (ty := 64) rfl ?_); refine storeC10 rfl rfl rfl rfl rfl q0kn qr2c qg3m rfl ?_) | ((with_reducible refine gate_ld (ty := 64) rfl ?_); (try (with_reducible refine gate_gd rfl ?_; refine gate_guard q8ju ?_; dsimp only)); refine load_st rfl rfl rfl q0kn qr2c Tryd.underlying64 rfl qg3m ?_; (try simp only [Act.put, List.setIfInBounds_toArray, List.set_cons_zero, List.set_cons_succ])) | go_in)
    refine bodyPost_ret (results_ct rfl _ _ gb204 31 #[.int .i64 t205, .int .i64 t206, .bool t207, .string t208] (0, 0) _ rfl q5n2 Tryd.underlying31 rfl qg3m) rfl ?_
    exact ⟨qxu5, qn99⟩
   ·replace c20 := Bool.eq_false_iff.mpr c20
    subst c20
    rw [if_neg (show ¬ (false = true) by decide)] at H
    by_cases c27 : t206 = 4789
    ·rw [if_pos c27] at H
     have c27b0 : (t206 == 4789) = true := beq_iff_eq.mpr c27
     have c27b1 : (t206 != 4789) = false := bne_eq_false_iff_eq.mpr c27
     clear c27
     simp only [Option.some.injEq, Prod.mk.injEq] at H
     obtain ⟨rfl, rfl, rfl, rfl, rfl⟩ := H
     have hnb28 := NB210_203.out
     have hnc28 := NB203_210.out
     have hnb29 := NB210_204.out
     have hnc29 := NB204_210.out
     obtain ⟨hcz30_0, hcz30_1, hcz30_2, hcz30_3⟩ := cells4 BK210.out
     obtain ⟨hfz30_0, hfz30_1, hfz30_2, hfz30_3⟩ := frozen4 BK210.out
     have hnb31 := NB204_203.out
     have hnc31 := NB203_204.out
     obtain ⟨hcz32_0, hcz32_1, hcz32_2, hcz32_3⟩ := cells4 BK204.out
     obtain ⟨hfz32_0, hfz32_1, hfz32_2, hfz32_3⟩ := frozen4 BK204.out
     go_wp2_with (first | ((with_reducible refine gate_st (ty := 64) rfl ?_); refine storeC10 rfl rfl rfl rfl rfl q0kn qr2c qg3m rfl ?_) | ((with_reducible refine gate_ld (ty := 64) rfl ?_); (try (with_reducible refine gate_gd rfl ?_; refine gate_guard q8ju ?_; dsimp only)); refine load_st rfl rfl rfl q0kn qr2c Tryd.underlying64 rfl qg3m ?_; (try simp only [Act.put, List.setIfInBounds_toArray, List.set_cons_zero, List.set_cons_succ])) | go_in)
     refine bodyPost_ret (results_ct rfl _ _ gb204 31 #[.int .i64 t205, .int .i64 t206, .bool t207, .string t208] (0, 0) _ rfl q5n2 Tryd.underlying31 rfl qg3m) rfl ?_
     exact ⟨qxu5, qn99⟩
    ·rw [if_neg c27] at H
     have c27b0 : (t206 == 4789) = false := beq_eq_false_iff_ne.mpr c27
     have c27b1 : (t206 != 4789) = true := bne_iff_ne.mpr c27
     replace H := Option.bind_eq_some_iff.mp H
     obtain ⟨t212, A330, H⟩ := H
     try dsimp only at H
     have A33 := Aside0.mk A330
     clear A330
     simp only [Option.some.injEq, Prod.mk.injEq] at H
     obtain ⟨rfl, rfl, rfl, rfl, rfl⟩ := H
     have hnb34 := NB210_203.out
     have hnc34 := NB203_210.out
     have hnb35 := NB210_204.out
     have hnc35 := NB204_210.out
     obtain ⟨hcz36_0, hcz36_1, hcz36_2, hcz36_3⟩ := cells4 BK210.out
     obtain ⟨hfz36_0, hfz36_1, hfz36_2, hfz36_3⟩ := frozen4 BK210.out
     try go_wp2_with (first | ((with_reducible refine gate_st (ty := 64) rfl ?_); refine storeC10 rfl rfl rfl rfl rfl q0kn qr2c qg3m rfl ?_) | ((with_reducible refine gate_ld (ty := 64) rfl ?_); (try (with_reducible refine gate_gd rfl ?_; refine gate_guard q8ju ?_; dsimp only)); refine load_st rfl rfl rfl q0kn qr2c Tryd.underlying64 rfl qg3m ?_; (try simp only [Act.put, List.setIfInBounds_toArray, List.set_cons_zero, List.set_cons_succ])) | go_in)
     replace BK203 := Aside0.mk (blk_drew BK203.out)
     replace BK204 := Aside0.mk (blk_drew BK204.out)
     replace BK210 := Aside0.mk (blk_drew BK210.out)
     replace HB := Aside0.mk (below_drew1 HB.out)
     refine start_ (n := 4) (S := fun w' => w'.cell? ⟨gb210, 0, none⟩ = some (.int .i64 t205) ∧ w'.cell? ⟨gb210, 1, none⟩ = some (.int .i64 t206) ∧ w'.cell? ⟨gb210, 2, none⟩ = some (.bool t207) ∧ w'.cell? ⟨gb210, 3, none⟩ = some (.string t208)) (ds := []) #[false, false, false, false] qg3m rfl rfl ⟨(blk_cell BK210.out 0).trans rfl, (blk_cell BK210.out 1).trans rfl, (blk_cell BK210.out 2).trans rfl, (blk_cell BK210.out 3).trans rfl⟩ (fun hHeld => ?_)
     generalize wc.drew = w37 at BK203 BK204 BK210 HB hHeld ⊢
     refine tk_992 (i := 0) (N := some 30) #[true, false, false, false] hHeld ?_
     refine one_ (i := 1) (N := some 31) #[true, true, false, false] rfl rfl qg3m qomw (fun K hK => ?_)
     refine goes_ Tryd.func27 qg3m rfl #[.string (⟨#[100, 97, 116, 97, 103, 114, 97, 109]⟩ : ByteArray), .int .i64 7] qlo1 rfl rfl qraq ?_
     with_reducible refine (station_not.calls (⟨#[100, 97, 116, 97, 103, 114, 97, 109]⟩ : ByteArray) 7 t212 _ A33.out).mono ?_
     rintro e w' ⟨rfl, ⟨nd, rfl⟩⟩
     refine ⟨_, rfl, ?_⟩
     (try simp only [errW_none, errW_some])
     refine hK.out _ _ qwla (fun hHeld => ?_)
     clear hK K
     refine norm_ (a' := ?_) ?_ ?_
     rotate_left
     ·show Act.put _ (some 31) _ = _
      simp only [Act.put, List.setIfInBounds_toArray, List.set_cons_zero, List.set_cons_succ, i64_w, i32_w]
      rfl
     refine one_ (i := 2) (N := none) #[true, true, true, false] rfl rfl qg3m qomw (fun K hK => ?_)
     have hs38 : w37.cell? ⟨gb204, 0, none⟩ = some (.int .i64 0) := (blk_cell BK204.out 0).trans rfl
     have hfs38 := blk_frozen BK204.out 0
     have hns38_0 := NB203_204.out
     have hns38_2 := NB210_204.out
     have hms38_0 := NB204_203.out
     have hms38_2 := NB204_210.out
     have hs39 : w37.cell? ⟨gb204, 1, none⟩ = some (.int .i64 0) := (blk_cell BK204.out 1).trans rfl
     have hfs39 := blk_frozen BK204.out 1
     have hns39_0 := NB203_204.out
     have hns39_2 := NB210_204.out
     have hms39_0 := NB204_203.out
     have hms39_2 := NB204_210.out
     have hs40 : w37.cell? ⟨gb204, 2, none⟩ = some (.bool false) := (blk_cell BK204.out 2).trans rfl
     have hfs40 := blk_frozen BK204.out 2
     have hns40_0 := NB203_204.out
     have hns40_2 := NB210_204.out
     have hms40_0 := NB204_203.out
     have hms40_2 := NB204_210.out
     have hs41 : w37.cell? ⟨gb204, 3, none⟩ = some (.string (⟨#[]⟩ : ByteArray)) := (blk_cell BK204.out 3).trans rfl
     have hfs41 := blk_frozen BK204.out 3
     have hns41_0 := NB203_204.out
     have hns41_2 := NB210_204.out
     have hms41_0 := NB204_203.out
     have hms41_2 := NB204_210.out
     refine skip_ (w1 := ?_) qgcr rfl ?_ ?_
     rotate_left
     ·go_simp
      rfl
     refine hK.out _ _ q0ie (fun hHeld => ?_)
     clear hK K
     refine pu_49e (i := 3) (N := some 3) #[true, true, true, true] ?_
     refine done_ qg3m ?_
     try go_wp2_with (first | ((with_reducible refine gate_st (ty := 64) rfl ?_); refine storeC10 rfl rfl rfl rfl rfl q0kn qr2c qg3m rfl ?_) | ((with_reducible refine gate_ld (ty := 64) rfl ?_); (try (with_reducible refine gate_gd rfl ?_; refine gate_guard q8ju ?_; dsimp only)); refine load_st rfl rfl rfl q0kn qr2c Tryd.underlying64 rfl qg3m ?_; (try simp only [Act.put, List.setIfInBounds_toArray, List.set_cons_zero, List.set_cons_succ])) | go_in)
     refine bodyPost_ret (results_ct rfl _ _ gb204 31 #[.int .i64 t205, .int .i64 t206, .bool t207, .string t208] (0, 0) _ rfl q5n2 Tryd.underlying31 rfl qg3m) rfl ?_
     exact ⟨qxu5, qn99⟩

end Go.Proofs.YtbkgaplldfilnaaDoor.P
