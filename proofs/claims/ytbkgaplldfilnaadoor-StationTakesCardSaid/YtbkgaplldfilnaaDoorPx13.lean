-- slim
-- Written by wip/hprint.py (this session's program) through the kit's print program; hand contracts are marked 'by hand'.
import Derived.Test.YtbkgaplldfilnaaDoorAbb
import Derived.Test.YtbkgaplldfilnaaDoorRow
import Derived.Test.YtbkgaplldfilnaaDoorPx0
import Derived.Test.YtbkgaplldfilnaaDoorPx12
namespace Go.Proofs.YtbkgaplldfilnaaDoor.P
open Go.RowKit Go.Proofs.YtbkgaplldfilnaaDoorW.PrintWords Go.Proofs.YtbkgaplldfilnaaDoorW.PrintLast Go.Proofs.YtbkgaplldfilnaaDoorW.PrintMore
attribute [local go_sem] max2_int min2_int max_two min_two max_three min_three max_four min_four   -- for this text's walks alone
set_option linter.unusedVariables false
set_option linter.unusedSimpArgs false

theorem q4ga {p : Prop} (h : p := by (with_reducible repeat (first | refine blk_drewN ?_ _ | refine blk_drew ?_ | refine blk_alloc ?_ _)); exact BK141.out) : p := h
theorem q0zq {p : Prop} (h : p := by (with_reducible repeat (first | refine blk_drewN ?_ _ | refine blk_drew ?_ | refine blk_alloc ?_ _ | refine blk_far ?_ NB141_153.out _)); exact BK141.out) : p := h
theorem qf7q {p : Prop} (h : p := by repeat (first | (with_reducible first | exact HB.out | apply below_alloc | apply pw_below_drewN | apply below_drew1 | refine below_set ?_ GE141.out) | exact HB.out)) : p := h
theorem qjab {p : Prop} (h : p := by repeat (first | (with_reducible first | exact HB.out | apply below_alloc | apply pw_below_drewN | apply below_drew1 | refine below_set ?_ GE156.out) | exact HB.out)) : p := h
theorem qwv1 {p : Prop} (h : p := by with_reducible repeat (first | (apply blk_far; case hp => assumption) | apply blk_set | refine blk_drewN ?_ _ | refine blk_drew ?_ | refine blk_alloc ?_ _ | exact BK156.out)) : p := h
theorem q6ww {p : Prop} (h : p := by with_reducible repeat (first | (apply blk_far; case hp => assumption) | apply blk_set | refine blk_drewN ?_ _ | refine blk_drew ?_ | refine blk_alloc ?_ _ | exact BK141.out | exact BK153.out)) : p := h
theorem q6oo {p : Prop} (h : p := by repeat (first | (with_reducible first | exact HB.out | apply below_alloc | apply pw_below_drewN | apply below_drew1 | refine below_set ?_ GE141.out | refine below_set ?_ GE153.out) | exact HB.out)) : p := h
/-! ### inet_number: function 76, by hand -/
-- IMPORT Derived.Test.YtbkgaplldfilnaaDoorAsOdd
def inet_number.f (a0 : Option Int) : Option (Int) := match a0 with
 | none => none
 | some c => if c < 1000 then some c else none
set_option maxHeartbeats 4000000 in
theorem inet_number.calls (a0 : Option Int) (r : Int) (w : World) (hL : Laid w) (h : inet_number.f a0 = some r) :
  Calls Tryd.prog 76 #[errW a0] w fun e w' => e = .returned (.int .i64 r) ∧ Below w.heap.size w w' := by
 unfold inet_number.f at h
 cases a0 with
 | none => cases h
 | some c =>
  by_cases hc : c < 1000
  ·rw [show (match some c with | none => none | some c => if c < 1000 then some c else none : Option Int) = if c < 1000 then some c else none from rfl, if_pos hc] at h
   obtain rfl := Option.some.inj h
   clear h
   have HL := Aside0.mk hL
   clear hL
   rw [errW_some]
   unfold errT_ errP_
   rw [if_pos hc, if_pos hc]
   go_enter Tryd.func76, Tryd.ntmps76
   go_wp2_with (go_at_call 16; refine (as_hit c ⟨w.heap.size, 0, none⟩ (.int .i64 0) _ (laid_below HL.out (below_alloc (Below.refl _ _) _)) ((blk_cell (blk_new w _) 0).trans rfl) (blk_frozen (blk_new w _) 0)).mono ?_; rintro e1 w1 ⟨rfl, w2, hb, hc, hf, rfl⟩; have HB := Aside0.mk (below_step (below_alloc (Below.refl w.heap.size w) (.cells #[.int .i64 0] 42)) hb); clear hb)
   go_ret
   exact ⟨rfl, below_set HB.out (Nat.le_refl _)⟩
  ·rw [show (match some c with | none => none | some c => if c < 1000 then some c else none : Option Int) = if c < 1000 then some c else none from rfl, if_neg hc] at h
   cases h

/-! ### inet_Parse: function 59 -/
def inet_Parse.f (k : Nat) (a0 : ByteArray) : Option (Int × Int × Bool × Bool × Int × Int × Int × Int × Int × ByteArray × Int) := (inet_read.f k a0).bind fun bt142 => (if bt142.2.2.2.2.2.2.2.2.2.2.isNone = true then (some (bt142.1, bt142.2.1, bt142.2.2.1, bt142.2.2.2.1, bt142.2.2.2.2.1, bt142.2.2.2.2.2.1, bt142.2.2.2.2.2.2.1, bt142.2.2.2.2.2.2.2.1, bt142.2.2.2.2.2.2.2.2.1, bt142.2.2.2.2.2.2.2.2.2.1, 0)) else ((inet_number.f (some (bt142.2.2.2.2.2.2.2.2.2.2.getD 0))).bind fun t155 => (some (0, 0, false, false, 0, 0, 0, 0, 0, (⟨#[]⟩ : ByteArray), t155))))
theorem inet_Parse.mono : ∀ a0 k, LeO (inet_Parse.f k a0) (inet_Parse.f (k + 1) a0) := by
 intro a0 k
 unfold inet_Parse.f
 repeat' first
   | (with_reducible exact inet_read.mono _ _)
   | (with_reducible exact LeO.refl _)
   | (with_reducible exact LeO.none _)
   | (with_reducible refine LeO.ite ?_ ?_)
   | (with_reducible refine LeO.bind ?_ (fun _ => ?_))
   | exact inet_read.mono _ _
   | exact LeO.none _
   | refine LeO.ite ?_ ?_
   | refine LeO.bind ?_ (fun _ => ?_)
set_option maxHeartbeats 8000000 in
set_option maxRecDepth 100000 in
theorem inet_Parse.calls (k : Nat) (a0 : ByteArray) (r1 : Int) (r2 : Int) (r3 : Bool) (r4 : Bool) (r5 : Int) (r6 : Int) (r7 : Int) (r8 : Int) (r9 : Int) (r10 : ByteArray) (r11 : Int) (w : World) (hL : Laid w) (h : inet_Parse.f k a0 = some (r1, r2, r3, r4, r5, r6, r7, r8, r9, r10, r11)) :
  Calls Tryd.prog 59 #[.string a0] w fun e w' => e = .returned (.tuple #[.agg #[.int .i64 r1, .int .i64 r2, .bool r3, .bool r4, .int .i64 r5, .int .i64 r6, .int .i64 r7, .int .u32 r8, .int .u32 r9, .string r10], .int .i64 r11]) ∧ Below w.heap.size w w' := by
 have HLD := Aside0.mk hL
 clear hL
 have hu64 := Tryd.underlying64
 have hu51 := Tryd.underlying51
 have HB := Aside0.mk (Below.refl w.heap.size w)
 have H := h
 unfold inet_Parse.f at H
 clear h
 replace H := Option.bind_eq_some_iff.mp H
 obtain ⟨⟨t142, t143, t144, t145, t146, t147, t148, t149, t150, t151, t152⟩, A20, H⟩ := H
 try dsimp only at H
 have A2 := Aside0.mk A20
 clear A20
 rcases t152 with _ | q154
 ·have H1 : (some (t142, t143, t144, t145, t146, t147, t148, t149, t150, t151, 0)) = some (r1, r2, r3, r4, r5, r6, r7, r8, r9, r10, r11) := by rw [if_pos (show (none : Option Int).isNone = true by rfl)] at H; exact H
  clear H
  have H := H1
  clear H1
  try simp only [errW_none, errW_some]
  simp only [Option.some.injEq, Prod.mk.injEq] at H
  obtain ⟨rfl, rfl, rfl, rfl, rfl, rfl, rfl, rfl, rfl, rfl, rfl⟩ := H
  go_enter Tryd.func59, Tryd.ntmps59
  go_wp2_with (first | ((with_reducible refine gate_st (ty := 64) rfl ?_); refine storeC10 rfl rfl rfl rfl rfl q6ww qr2c qg3m rfl ?_) | ((with_reducible refine gate_ld (ty := 64) rfl ?_); (try (with_reducible refine gate_gd rfl ?_; refine gate_guard q8ju ?_; dsimp only)); refine load_st rfl rfl rfl q6ww qr2c Tryd.underlying64 rfl qg3m ?_; (try simp only [Act.put, List.setIfInBounds_toArray, List.set_cons_zero, List.set_cons_succ])) | ((with_reducible refine gate_dst (N := 2) rfl ?_); refine box_event qgcr (N := 2) qgcr (cs := #[.int .i64 0, .int .i64 0, .bool false, .bool false, .int .i64 0, .int .i64 0, .int .i64 0, .int .u32 0, .int .u32 0, .string (⟨#[]⟩ : ByteArray)]) (t := 64) qlto ?_; intro gb141 hg w3 hbox hb; have BK141 := Aside0.mk (hbox); have GE141 := Aside0.mk ((qisx : w.heap.size ≤ gb141)); replace HB := Aside0.mk (below_step qpag hb); clear hb hbox hg) | ((with_reducible refine gate_callee (f := 75) rfl ?_); refine goesL_ (some 8) rfl rfl Tryd.func75 qg3m rfl #[.string a0] rfl qraq ?_; (with_reducible refine (inet_read.calls k a0 t142 t143 t144 t145 t146 t147 t148 t149 t150 t151 none _ A2.out).mono ?_); rintro e w4 ⟨rfl, hb⟩; refine ⟨_, rfl, ?_⟩; replace BK141 := Aside0.mk (blk_below (g := gb141) q4ga hb); replace HB := Aside0.mk (below_step qf7q hb); obtain ⟨hcy1_141_0, hcy1_141_1, hcy1_141_2, hcy1_141_3, hcy1_141_4, hcy1_141_5, hcy1_141_6, hcy1_141_7, hcy1_141_8, hcy1_141_9⟩ := cells10 BK141.out; (try clear hb); (try clear hb2); (try clear hk); (try clear hi); (try simp only [errW_none, errW_some])) | ((with_reducible refine gate_dst (N := 4) rfl ?_); refine box_event qgcr (N := 4) qgcr (cs := #[.int .i64 0, .int .i64 0, .bool false, .bool false, .int .i64 0, .int .i64 0, .int .i64 0, .int .u32 0, .int .u32 0, .string (⟨#[]⟩ : ByteArray)]) (t := 64) qlto ?_; intro gb153 hg w5 hbox hb; have BK153 := Aside0.mk (hbox); have GE153 := Aside0.mk ((by rw [hg]; exact (below_size qf7q) : w.heap.size ≤ gb153)); have NB141_153 := Aside0.mk ((by rw [hg]; exact Nat.ne_of_lt (blk_lt (g := gb141) q4ga) : gb141 ≠ gb153)); have NB153_141 := Aside0.mk ((by rw [hg]; exact Nat.ne_of_gt (blk_lt (g := gb141) q4ga) : gb153 ≠ gb141)); replace BK141 := Aside0.mk (blk_below (g := gb141) q4ga hb); replace HB := Aside0.mk (below_step qf7q hb); clear hb hbox hg; have hnb6 := NB153_141.out; have hnc6 := NB141_153.out; obtain ⟨hcz7_0, hcz7_1, hcz7_2, hcz7_3, hcz7_4, hcz7_5, hcz7_6, hcz7_7, hcz7_8, hcz7_9⟩ := cells10 BK153.out; obtain ⟨hfz7_0, hfz7_1, hfz7_2, hfz7_3, hfz7_4, hfz7_5, hfz7_6, hfz7_7, hfz7_8, hfz7_9⟩ := frozen10 BK153.out; obtain ⟨hcz8_0, hcz8_1, hcz8_2, hcz8_3, hcz8_4, hcz8_5, hcz8_6, hcz8_7, hcz8_8, hcz8_9⟩ := cells10 BK141.out; obtain ⟨hfz8_0, hfz8_1, hfz8_2, hfz8_3, hfz8_4, hfz8_5, hfz8_6, hfz8_7, hfz8_8, hfz8_9⟩ := frozen10 BK141.out))
  refine bodyPost_ret (results_ct rfl _ _ gb141 64 #[.int .i64 t142, .int .i64 t143, .bool t144, .bool t145, .int .i64 t146, .int .i64 t147, .int .i64 t148, .int .u32 t149, .int .u32 t150, .string t151] (0, 0) _ rfl (by (with_reducible repeat (first | refine blk_drewN ?_ _ | refine blk_drew ?_ | refine blk_alloc ?_ _)); exact put10_0_10 q0zq) Tryd.underlying64 rfl qg3m) rfl ?_
  exact ⟨qxu5, q6oo⟩
 ·have H1 : ((inet_number.f (some q154)).bind fun t155 => (some (0, 0, false, false, 0, 0, 0, 0, 0, (⟨#[]⟩ : ByteArray), t155))) = some (r1, r2, r3, r4, r5, r6, r7, r8, r9, r10, r11) := by rw [if_neg (show ¬ (some q154).isNone = true by simp)] at H; exact H
  clear H
  have H := H1
  clear H1
  try simp only [errW_none, errW_some]
  replace H := Option.bind_eq_some_iff.mp H
  obtain ⟨t155, A90, H⟩ := H
  try dsimp only at H
  have A9 := Aside0.mk A90
  clear A90
  simp only [Option.some.injEq, Prod.mk.injEq] at H
  obtain ⟨rfl, rfl, rfl, rfl, rfl, rfl, rfl, rfl, rfl, rfl, rfl⟩ := H
  go_enter Tryd.func59, Tryd.ntmps59
  go_wp2_with (first | ((with_reducible refine gate_st (ty := 64) rfl ?_); refine storeC10 rfl rfl rfl rfl rfl q6ww qr2c qg3m rfl ?_) | ((with_reducible refine gate_ld (ty := 64) rfl ?_); (try (with_reducible refine gate_gd rfl ?_; refine gate_guard q8ju ?_; dsimp only)); refine load_st rfl rfl rfl q6ww qr2c Tryd.underlying64 rfl qg3m ?_; (try simp only [Act.put, List.setIfInBounds_toArray, List.set_cons_zero, List.set_cons_succ])) | ((with_reducible refine gate_dst (N := 2) rfl ?_); refine box_event qgcr (N := 2) qgcr (cs := #[.int .i64 0, .int .i64 0, .bool false, .bool false, .int .i64 0, .int .i64 0, .int .i64 0, .int .u32 0, .int .u32 0, .string (⟨#[]⟩ : ByteArray)]) (t := 64) qlto ?_; intro gb141 hg w10 hbox hb; have BK141 := Aside0.mk (hbox); have GE141 := Aside0.mk ((qisx : w.heap.size ≤ gb141)); replace HB := Aside0.mk (below_step qpag hb); clear hb hbox hg) | ((with_reducible refine gate_callee (f := 75) rfl ?_); refine goesL_ (some 8) rfl rfl Tryd.func75 qg3m rfl #[.string a0] rfl qraq ?_; (with_reducible refine (inet_read.calls k a0 t142 t143 t144 t145 t146 t147 t148 t149 t150 t151 (some q154) _ A2.out).mono ?_); rintro e w11 ⟨rfl, hb⟩; refine ⟨_, rfl, ?_⟩; replace BK141 := Aside0.mk (blk_below (g := gb141) q4ga hb); replace HB := Aside0.mk (below_step qf7q hb); obtain ⟨hcy1_141_0, hcy1_141_1, hcy1_141_2, hcy1_141_3, hcy1_141_4, hcy1_141_5, hcy1_141_6, hcy1_141_7, hcy1_141_8, hcy1_141_9⟩ := cells10 BK141.out; (try clear hb); (try clear hb2); (try clear hk); (try clear hi); (try simp only [errW_none, errW_some])) | ((with_reducible refine gate_dst (N := 4) rfl ?_); refine box_event qgcr (N := 4) qgcr (cs := #[.int .i64 0, .int .i64 0, .bool false, .bool false, .int .i64 0, .int .i64 0, .int .i64 0, .int .u32 0, .int .u32 0, .string (⟨#[]⟩ : ByteArray)]) (t := 64) qlto ?_; intro gb153 hg w12 hbox hb; have BK153 := Aside0.mk (hbox); have GE153 := Aside0.mk ((by rw [hg]; exact (below_size qf7q) : w.heap.size ≤ gb153)); have NB141_153 := Aside0.mk ((by rw [hg]; exact Nat.ne_of_lt (blk_lt (g := gb141) q4ga) : gb141 ≠ gb153)); have NB153_141 := Aside0.mk ((by rw [hg]; exact Nat.ne_of_gt (blk_lt (g := gb141) q4ga) : gb153 ≠ gb141)); replace BK141 := Aside0.mk (blk_below (g := gb141) q4ga hb); replace HB := Aside0.mk (below_step qf7q hb); obtain ⟨hcy2_141_0, hcy2_141_1, hcy2_141_2, hcy2_141_3, hcy2_141_4, hcy2_141_5, hcy2_141_6, hcy2_141_7, hcy2_141_8, hcy2_141_9⟩ := cells10 BK141.out; clear hb hbox hg; have hnb13 := NB153_141.out; have hnc13 := NB141_153.out; obtain ⟨hcz14_0, hcz14_1, hcz14_2, hcz14_3, hcz14_4, hcz14_5, hcz14_6, hcz14_7, hcz14_8, hcz14_9⟩ := cells10 BK153.out; obtain ⟨hfz14_0, hfz14_1, hfz14_2, hfz14_3, hfz14_4, hfz14_5, hfz14_6, hfz14_7, hfz14_8, hfz14_9⟩ := frozen10 BK153.out; have CA9 := fun W hL_ => inet_number.calls (some q154) t155 W hL_ A9.out; try simp only [errW_none, errW_some] at CA9) | (go_at_call 76; (with_reducible refine (CA9 _ ?sideL).mono ?_); (case sideL => exact laid_below HLD.out q6oo); rintro e w15 ⟨rfl, hb⟩; replace BK141 := Aside0.mk (blk_below (g := gb141) (o := .cells #[.int .i64 0, .int .i64 0, .bool false, .bool false, .int .i64 0, .int .i64 0, .int .i64 0, .int .u32 0, .int .u32 0, .string (⟨#[]⟩ : ByteArray)] 64 (0, 0)) q0zq hb); replace BK153 := Aside0.mk (blk_below (g := gb153) (o := .cells #[.int .i64 t142, .int .i64 t143, .bool t144, .bool t145, .int .i64 t146, .int .i64 t147, .int .i64 t148, .int .u32 t149, .int .u32 t150, .string t151] 64 (0, 0)) (by (with_reducible repeat (first | refine blk_drewN ?_ _ | refine blk_drew ?_ | refine blk_alloc ?_ _)); exact put10_0_10 (by (with_reducible repeat (first | refine blk_drewN ?_ _ | refine blk_drew ?_ | refine blk_alloc ?_ _)); exact BK153.out)) hb); replace HB := Aside0.mk (below_step q6oo hb); (try clear hb); (try clear hb2); (try clear hk); (try clear hi); obtain ⟨hcz16_0, hcz16_1, hcz16_2, hcz16_3, hcz16_4, hcz16_5, hcz16_6, hcz16_7, hcz16_8, hcz16_9⟩ := cells10 BK141.out; obtain ⟨hfz16_0, hfz16_1, hfz16_2, hfz16_3, hfz16_4, hfz16_5, hfz16_6, hfz16_7, hfz16_8, hfz16_9⟩ := frozen10 BK141.out))
  refine bodyPost_ret (results_ct rfl _ _ gb141 64 #[.int .i64 0, .int .i64 0, .bool false, .bool false, .int .i64 0, .int .i64 0, .int .i64 0, .int .u32 0, .int .u32 0, .string (⟨#[]⟩ : ByteArray)] (0, 0) _ rfl (by (with_reducible repeat (first | refine blk_drewN ?_ _ | refine blk_drew ?_ | refine blk_alloc ?_ _)); exact put10_0_10 q4ga) Tryd.underlying64 rfl qg3m) rfl ?_
  exact ⟨qxu5, q6oo⟩

/-! ### inet_Part: function 60 -/
def inet_Part.f (a0_0 : Int) (a0_1 : Int) (a0_2 : Bool) (a0_3 : Bool) (a0_4 : Int) (a0_5 : Int) (a0_6 : Int) (a0_7 : Int) (a0_8 : Int) (a0_9 : ByteArray) : Option (Bool) := if a0_3 = true then (some true) else (some (decide (a0_4 > 0)))
set_option maxHeartbeats 8000000 in
set_option maxRecDepth 100000 in
theorem inet_Part.calls (a0_0 : Int) (a0_1 : Int) (a0_2 : Bool) (a0_3 : Bool) (a0_4 : Int) (a0_5 : Int) (a0_6 : Int) (a0_7 : Int) (a0_8 : Int) (a0_9 : ByteArray) (r : Bool) (w : World) (h : inet_Part.f a0_0 a0_1 a0_2 a0_3 a0_4 a0_5 a0_6 a0_7 a0_8 a0_9 = some r) :
  Calls Tryd.prog 60 #[.agg #[.int .i64 a0_0, .int .i64 a0_1, .bool a0_2, .bool a0_3, .int .i64 a0_4, .int .i64 a0_5, .int .i64 a0_6, .int .u32 a0_7, .int .u32 a0_8, .string a0_9]] w fun e w' => e = .returned (.bool r) ∧ Below w.heap.size w w' := by
 have hu64 := Tryd.underlying64
 have HB := Aside0.mk (Below.refl w.heap.size w)
 have H := h
 unfold inet_Part.f at H
 clear h
 by_cases c2 : a0_3 = true
 ·subst c2
  rw [if_pos rfl] at H
  obtain rfl := Option.some.inj H
  go_enter Tryd.func60, Tryd.ntmps60
  go_wp2_with (first | ((with_reducible refine gate_st (ty := 64) rfl ?_); refine storeC10 rfl rfl rfl rfl rfl qwv1 qr2c qg3m rfl ?_) | ((with_reducible refine gate_ld (ty := 64) rfl ?_); (try (with_reducible refine gate_gd rfl ?_; refine gate_guard q8ju ?_; dsimp only)); refine load_st rfl rfl rfl qwv1 qr2c Tryd.underlying64 rfl qg3m ?_; (try simp only [Act.put, List.setIfInBounds_toArray, List.set_cons_zero, List.set_cons_succ])) | ((with_reducible refine gate_dst (N := 1) rfl ?_); refine box_event qgcr (N := 1) qgcr (cs := #[.int .i64 a0_0, .int .i64 a0_1, .bool a0_2, .bool true, .int .i64 a0_4, .int .i64 a0_5, .int .i64 a0_6, .int .u32 a0_7, .int .u32 a0_8, .string a0_9]) (t := 64) qlto ?_; intro gb156 hg w3 hbox hb; have BK156 := Aside0.mk (hbox); have GE156 := Aside0.mk ((qisx : w.heap.size ≤ gb156)); replace HB := Aside0.mk (below_step qpag hb); clear hb hbox hg; obtain ⟨hcz4_0, hcz4_1, hcz4_2, hcz4_3, hcz4_4, hcz4_5, hcz4_6, hcz4_7, hcz4_8, hcz4_9⟩ := cells10 BK156.out; obtain ⟨hfz4_0, hfz4_1, hfz4_2, hfz4_3, hfz4_4, hfz4_5, hfz4_6, hfz4_7, hfz4_8, hfz4_9⟩ := frozen10 BK156.out))
  go_ret
  exact ⟨qxu5, qjab⟩
 ·replace c2 := Bool.eq_false_iff.mpr c2
  subst c2
  rw [if_neg (show ¬ (false = true) by decide)] at H
  obtain rfl := Option.some.inj H
  go_enter Tryd.func60, Tryd.ntmps60
  go_wp2_with (first | ((with_reducible refine gate_st (ty := 64) rfl ?_); refine storeC10 rfl rfl rfl rfl rfl qwv1 qr2c qg3m rfl ?_) | ((with_reducible refine gate_ld (ty := 64) rfl ?_); (try (with_reducible refine gate_gd rfl ?_; refine gate_guard q8ju ?_; dsimp only)); refine load_st rfl rfl rfl qwv1 qr2c Tryd.underlying64 rfl qg3m ?_; (try simp only [Act.put, List.setIfInBounds_toArray, List.set_cons_zero, List.set_cons_succ])) | ((with_reducible refine gate_dst (N := 1) rfl ?_); refine box_event qgcr (N := 1) qgcr (cs := #[.int .i64 a0_0, .int .i64 a0_1, .bool a0_2, .bool false, .int .i64 a0_4, .int .i64 a0_5, .int .i64 a0_6, .int .u32 a0_7, .int .u32 a0_8, .string a0_9]) (t := 64) qlto ?_; intro gb156 hg w5 hbox hb; have BK156 := Aside0.mk (hbox); have GE156 := Aside0.mk ((qisx : w.heap.size ≤ gb156)); replace HB := Aside0.mk (below_step qpag hb); clear hb hbox hg; obtain ⟨hcz6_0, hcz6_1, hcz6_2, hcz6_3, hcz6_4, hcz6_5, hcz6_6, hcz6_7, hcz6_8, hcz6_9⟩ := cells10 BK156.out; obtain ⟨hfz6_0, hfz6_1, hfz6_2, hfz6_3, hfz6_4, hfz6_5, hfz6_6, hfz6_7, hfz6_8, hfz6_9⟩ := frozen10 BK156.out))
  go_ret
  exact ⟨qxu5, qjab⟩

attribute [local go_sem] max2_int min2_int max_two min_two max_three min_three max_four min_four   -- for this text's walks alone
set_option linter.unusedVariables false
set_option linter.unusedSimpArgs false

theorem q0yl {p : Prop} (h : p := by (with_reducible repeat (first | refine blk_drewN ?_ _ | refine blk_drew ?_ | refine blk_alloc ?_ _)); exact BK260.out) : p := h
theorem qeb3 {p : Prop} (h : p := by repeat (first | (with_reducible first | exact HB.out | apply below_alloc | apply pw_below_drewN | apply below_drew1 | refine below_set ?_ GE260.out) | exact HB.out)) : p := h
theorem qxb4 {p : Prop} (h : p := by with_reducible repeat (first | (apply blk_far; case hp => assumption) | apply blk_set | refine blk_drewN ?_ _ | refine blk_drew ?_ | refine blk_alloc ?_ _ | exact BK263.out)) : p := h
theorem ql9r {p : Prop} (h : p := by with_reducible repeat (first | (apply blk_far; case hp => assumption) | apply blk_set | refine blk_drewN ?_ _ | refine blk_drew ?_ | refine blk_alloc ?_ _ | exact BK260.out | exact BK261.out)) : p := h
/-! ### gangwayref20_why: function 17 -/
def gangwayref20_why.f (a0 : Int) : Option (Int × Int × Int × Int × Bool × ByteArray × Int × Int × Int × Int × Int) := some (a0, 0, 0, 0, false, (⟨#[]⟩ : ByteArray), 0, 0, 0, 0, 0)
set_option maxHeartbeats 8000000 in
set_option maxRecDepth 100000 in
theorem gangwayref20_why.calls (a0 : Int) (r1 : Int) (r2 : Int) (r3 : Int) (r4 : Int) (r5 : Bool) (r6 : ByteArray) (r7 : Int) (r8 : Int) (r9 : Int) (r10 : Int) (r11 : Int) (w : World) (h : gangwayref20_why.f a0 = some (r1, r2, r3, r4, r5, r6, r7, r8, r9, r10, r11)) :
  Calls Tryd.prog 17 #[.int .i64 a0] w fun e w' => e = .returned (.tuple #[.agg #[.int .i64 r1, .int .u32 r2, .int .i64 r3, .int .i64 r4, .bool r5, .string r6], .agg #[.int .i64 r7, .int .u64 r8, .int .u32 r9, .int .u64 r10, .int .u32 r11]]) ∧ Below w.heap.size w w' := by
 have hu33 := Tryd.underlying33
 have hu35 := Tryd.underlying35
 have HB := Aside0.mk (Below.refl w.heap.size w)
 have H := h
 unfold gangwayref20_why.f at H
 clear h
 simp only [Option.some.injEq, Prod.mk.injEq] at H
 obtain ⟨rfl, rfl, rfl, rfl, rfl, rfl, rfl, rfl, rfl, rfl, rfl⟩ := H
 go_enter Tryd.func17, Tryd.ntmps17
 go_wp2_with (first | ((with_reducible refine gate_st (ty := 33) rfl ?_); refine storeC6 rfl rfl rfl rfl rfl ql9r qr2c qg3m rfl ?_) | ((with_reducible refine gate_ld (ty := 33) rfl ?_); (try (with_reducible refine gate_gd rfl ?_; refine gate_guard q8ju ?_; dsimp only)); refine load_st rfl rfl rfl ql9r qr2c Tryd.underlying33 rfl qg3m ?_; (try simp only [Act.put, List.setIfInBounds_toArray, List.set_cons_zero, List.set_cons_succ])) | ((with_reducible refine gate_st (ty := 35) rfl ?_); refine storeC5 rfl rfl rfl rfl rfl ql9r qr2c qg3m rfl ?_) | ((with_reducible refine gate_ld (ty := 35) rfl ?_); (try (with_reducible refine gate_gd rfl ?_; refine gate_guard q8ju ?_; dsimp only)); refine load_st rfl rfl rfl ql9r qr2c Tryd.underlying35 rfl qg3m ?_; (try simp only [Act.put, List.setIfInBounds_toArray, List.set_cons_zero, List.set_cons_succ])) | ((with_reducible refine gate_dst (N := 2) rfl ?_); refine box_event qgcr (N := 2) qgcr (cs := #[.int .i64 0, .int .u32 0, .int .i64 0, .int .i64 0, .bool false, .string (⟨#[]⟩ : ByteArray)]) (t := 33) qlto ?_; intro gb260 hg w2 hbox hb; have BK260 := Aside0.mk (hbox); have GE260 := Aside0.mk ((qisx : w.heap.size ≤ gb260)); replace HB := Aside0.mk (below_step qpag hb); clear hb hbox hg) | ((with_reducible refine gate_dst (N := 3) rfl ?_); refine box_event qgcr (N := 3) qgcr (cs := #[.int .i64 0, .int .u64 0, .int .u32 0, .int .u64 0, .int .u32 0]) (t := 35) qlto ?_; intro gb261 hg w3 hbox hb; have BK261 := Aside0.mk (hbox); have GE261 := Aside0.mk ((by rw [hg]; exact (below_size qeb3) : w.heap.size ≤ gb261)); have NB260_261 := Aside0.mk ((by rw [hg]; exact Nat.ne_of_lt (blk_lt (g := gb260) q0yl) : gb260 ≠ gb261)); have NB261_260 := Aside0.mk ((by rw [hg]; exact Nat.ne_of_gt (blk_lt (g := gb260) q0yl) : gb261 ≠ gb260)); replace BK260 := Aside0.mk (blk_below (g := gb260) q0yl hb); replace HB := Aside0.mk (below_step qeb3 hb); clear hb hbox hg; have hnb4 := NB260_261.out; have hnc4 := NB261_260.out; obtain ⟨hcz5_0, hcz5_1, hcz5_2, hcz5_3, hcz5_4, hcz5_5⟩ := cells6 BK260.out; obtain ⟨hfz5_0, hfz5_1, hfz5_2, hfz5_3, hfz5_4, hfz5_5⟩ := frozen6 BK260.out; obtain ⟨hcz6_0, hcz6_1, hcz6_2, hcz6_3, hcz6_4⟩ := cells5 BK261.out; obtain ⟨hfz6_0, hfz6_1, hfz6_2, hfz6_3, hfz6_4⟩ := frozen5 BK261.out))
 refine bodyPost_ret (results_cc rfl _ _ gb260 gb261 33 35 #[.int .i64 a0, .int .u32 0, .int .i64 0, .int .i64 0, .bool false, .string (⟨#[]⟩ : ByteArray)] #[.int .i64 0, .int .u64 0, .int .u32 0, .int .u64 0, .int .u32 0] (0, 0) (0, 0) _ _ rfl (by (with_reducible repeat (first | refine blk_drewN ?_ _ | refine blk_drew ?_ | refine blk_alloc ?_ _ | refine blk_far ?_ NB260_261.out _)); exact put6_0_6 q0yl) Tryd.underlying33 rfl qg3m rfl (by (with_reducible repeat (first | refine blk_drewN ?_ _ | refine blk_drew ?_ | refine blk_alloc ?_ _)); exact put5_0_5 (by (with_reducible repeat (first | refine blk_drewN ?_ _ | refine blk_drew ?_ | refine blk_alloc ?_ _ | refine blk_far ?_ NB261_260.out _)); exact BK261.out)) Tryd.underlying35 rfl qg3m) rfl ?_
 exact ⟨qxu5, (by repeat (first | (with_reducible first | exact HB.out | apply below_alloc | apply pw_below_drewN | apply below_drew1 | refine below_set ?_ GE260.out | refine below_set ?_ GE261.out) | exact HB.out))⟩
/-! ### gangwayref02_Group: function 36 -/
def gangwayref02_Group.f (a0 : Int) : Option (Bool) := some ((Int.tmod (IntKind.u64.wrap (Int.tdiv a0 1099511627776)) 2) == 1)
set_option maxHeartbeats 8000000 in
set_option maxRecDepth 100000 in
theorem gangwayref02_Group.calls (a0 : Int) (r : Bool) (w : World) (h : gangwayref02_Group.f a0 = some r) :
  Calls Tryd.prog 36 #[.int .u64 a0] w fun e w' => e = .returned (.bool r) ∧ Drawn0 w w' := by
 have H := h
 unfold gangwayref02_Group.f at H
 clear h
 obtain rfl := Option.some.inj H
 go_enter Tryd.func36, Tryd.ntmps36
 go_wp2
 go_ret
 exact ⟨q8z4, qlmv⟩
/-! ### gangwayref02_Own: function 18 -/
def gangwayref02_Own.f (a0 : Int) : Option (Bool) := if a0 > 0 then (if a0 < 281474976710656 then ((gangwayref02_Group.f a0).bind fun t262 => (some (!t262))) else (some false)) else (some false)
theorem z22_0 {p : Prop} (h : p := by
 obtain rfl := Option.some.inj H
 go_enter Tryd.func65, Tryd.ntmps65
 go_wp2_with (first | ((with_reducible refine gate_st (ty := 35) rfl ?_); refine storeC5 rfl rfl rfl rfl rfl qxb4 qr2c qg3m rfl ?_) | ((with_reducible refine gate_ld (ty := 35) rfl ?_); (try (with_reducible refine gate_gd rfl ?_; refine gate_guard q8ju ?_; dsimp only)); refine load_st rfl rfl rfl qxb4 qr2c Tryd.underlying35 rfl qg3m ?_; (try simp only [Act.put, List.setIfInBounds_toArray, List.set_cons_zero, List.set_cons_succ])) | ((with_reducible refine gate_dst (N := 1) rfl ?_); refine box_event qgcr (N := 1) qgcr (cs := #[.int .i64 a0_0, .int .u64 a0_1, .int .u32 a0_2, .int .u64 a0_3, .int .u32 a0_4]) (t := 35) qlto ?_; intro gbz0 hg wz1 hbox hb; have BK263 := Aside0.mk (hbox); have GEz0 := Aside0.mk ((qisx : w.heap.size ≤ gbz0)); replace HB := Aside0.mk (below_step qpag hb); clear hb hbox hg; obtain ⟨hczz2_0, hczz2_1, hczz2_2, hczz2_3, hczz2_4⟩ := cells5 BK263.out; obtain ⟨hfzz2_0, hfzz2_1, hfzz2_2, hfzz2_3, hfzz2_4⟩ := frozen5 BK263.out) | (go_at_call 18; (with_reducible refine (gangwayref02_Own.calls a0_1 true _ A8.out).mono ?_); rintro e w' ⟨rfl, ⟨nd, rfl⟩⟩))
 go_ret
 exact ⟨qxu5, qmef⟩) : p := h
theorem z22_1 {p : Prop} (h : p := by
 obtain rfl := Option.some.inj H
 go_enter Tryd.func65, Tryd.ntmps65
 go_wp2_with (first | ((with_reducible refine gate_st (ty := 35) rfl ?_); refine storeC5 rfl rfl rfl rfl rfl qxb4 qr2c qg3m rfl ?_) | ((with_reducible refine gate_ld (ty := 35) rfl ?_); (try (with_reducible refine gate_gd rfl ?_; refine gate_guard q8ju ?_; dsimp only)); refine load_st rfl rfl rfl qxb4 qr2c Tryd.underlying35 rfl qg3m ?_; (try simp only [Act.put, List.setIfInBounds_toArray, List.set_cons_zero, List.set_cons_succ])) | ((with_reducible refine gate_dst (N := 1) rfl ?_); refine box_event qgcr (N := 1) qgcr (cs := #[.int .i64 a0_0, .int .u64 a0_1, .int .u32 a0_2, .int .u64 a0_3, .int .u32 a0_4]) (t := 35) qlto ?_; intro gbz0 hg wz1 hbox hb; have BK263 := Aside0.mk (hbox); have GEz0 := Aside0.mk ((qisx : w.heap.size ≤ gbz0)); replace HB := Aside0.mk (below_step qpag hb); clear hb hbox hg; obtain ⟨hczz2_0, hczz2_1, hczz2_2, hczz2_3, hczz2_4⟩ := cells5 BK263.out; obtain ⟨hfzz2_0, hfzz2_1, hfzz2_2, hfzz2_3, hfzz2_4⟩ := frozen5 BK263.out))
 go_ret
 exact ⟨qxu5, qmef⟩) : p := h
theorem z22_2 {p : Prop} (h : p := by
 go_wp2
 go_ret
 exact ⟨q8z4, qlmv⟩) : p := h
set_option maxHeartbeats 8000000 in
set_option maxRecDepth 100000 in
theorem gangwayref02_Own.calls (a0 : Int) (r : Bool) (w : World) (h : gangwayref02_Own.f a0 = some r) :
  Calls Tryd.prog 18 #[.int .u64 a0] w fun e w' => e = .returned (.bool r) ∧ Drawn0 w w' := by
 have H := h
 unfold gangwayref02_Own.f at H
 clear h
 by_cases c2 : a0 > 0
 ·rw [if_pos c2] at H
  have c2b0 : decide (0 < a0) = true := decide_eq_true c2
  clear c2
  by_cases c3 : a0 < 281474976710656
  ·rw [if_pos c3] at H
   have c3b0 : decide (a0 < 281474976710656) = true := decide_eq_true c3
   clear c3
   replace H := Option.bind_eq_some_iff.mp H
   obtain ⟨t262, A40, H⟩ := H
   try dsimp only at H
   have A4 := Aside0.mk A40
   clear A40
   obtain rfl := Option.some.inj H
   go_enter Tryd.func18, Tryd.ntmps18
   go_wp2_with (first | (go_at_call 36; (with_reducible refine (gangwayref02_Group.calls a0 t262 _ A4.out).mono ?_); rintro e w' ⟨rfl, ⟨nd, rfl⟩⟩))
   go_ret
   exact ⟨q8z4, qlmv⟩
  ·rw [if_neg c3] at H
   have c3b0 : decide (a0 < 281474976710656) = false := decide_eq_false c3
   clear c3
   obtain rfl := Option.some.inj H
   go_enter Tryd.func18, Tryd.ntmps18
   exact z22_2
 ·rw [if_neg c2] at H
  have c2b0 : decide (0 < a0) = false := decide_eq_false c2
  clear c2
  obtain rfl := Option.some.inj H
  go_enter Tryd.func18, Tryd.ntmps18
  exact z22_2
/-! ### gangwayref01_Num: function 40 -/
def gangwayref01_Num.l0 : Nat → ByteArray → Int → Int → Option (Int)
 | 0, _, _, _ => none
 | k + 1, x0, x3, x4 => if x4 < (x0.size : Int) then (if 0 ≤ x4 then (gangwayref01_Num.l0 k x0 (IntKind.u64.wrap ((IntKind.u64.wrap (x3 * 256)) + (IntKind.u64.wrap (bt x0 x4)))) (wrap64 (x4 + 1))) else (none)) else (some x3)
def gangwayref01_Num.f (k : Nat) (a0 : ByteArray) : Option (Int) := gangwayref01_Num.l0 k a0 0 0
theorem gangwayref01_Num.mono_l : ∀ k, (∀ y0 y1 y2, LeO (gangwayref01_Num.l0 k y0 y1 y2) (gangwayref01_Num.l0 (k + 1) y0 y1 y2))
 | 0 => fun _ _ _ r h => by simp [gangwayref01_Num.l0] at h
 | k + 1 => by
  have ih0 := gangwayref01_Num.mono_l k
  ·intro y0 y1 y2
   unfold gangwayref01_Num.l0
   repeat' first
   | (with_reducible exact ih0 _ _ _)
   | (with_reducible exact LeO.refl _)
   | (with_reducible exact LeO.none _)
   | (with_reducible refine LeO.ite ?_ ?_)
   | (with_reducible refine LeO.bind ?_ (fun _ => ?_))
   | exact ih0 _ _ _
   | exact LeO.none _
   | refine LeO.ite ?_ ?_
   | refine LeO.bind ?_ (fun _ => ?_)
theorem gangwayref01_Num.mono : ∀ a0 k, LeO (gangwayref01_Num.f k a0) (gangwayref01_Num.f (k + 1) a0) := by
 intro a0 k
 have ih0 := gangwayref01_Num.mono_l k
 unfold gangwayref01_Num.f
 repeat' first
   | (with_reducible exact ih0 _ _ _)
   | (with_reducible exact LeO.refl _)
   | (with_reducible exact LeO.none _)
   | (with_reducible refine LeO.ite ?_ ?_)
   | (with_reducible refine LeO.bind ?_ (fun _ => ?_))
   | exact ih0 _ _ _
   | exact LeO.none _
   | refine LeO.ite ?_ ?_
   | refine LeO.bind ?_ (fun _ => ?_)
set_option maxHeartbeats 8000000 in
set_option maxRecDepth 100000 in
theorem gangwayref01_Num.calls (k : Nat) (a0 : ByteArray) (r : Int) (w : World) (h : gangwayref01_Num.f k a0 = some r) :
  Calls Tryd.prog 40 #[.string a0] w fun e w' => e = .returned (.int .u64 r) ∧ Drawn0 w w' := by
 have H := h
 unfold gangwayref01_Num.f at H
 clear h
 have H' := Aside0.mk H
 clear H
 go_enter Tryd.func40, Tryd.ntmps40
 go_wp2
 go_loopg [3, 4] k (fun kq v3 v4 w' => ∃ (x3_1 : Int) (x4_1 : Int), v3 = .int .u64 x3_1 ∧ v4 = .int .i64 x4_1 ∧ Aside0 (gangwayref01_Num.l0 kq a0 x3_1 x4_1 = some r) ∧ Aside0 (kq ≤ k) ∧ Drawn0 w w')
 case atStart => exact ⟨(0), (0), q8z4, q8z4, H', ⟨Nat.le_refl _⟩, qlmv⟩
 case round =>
  clear H'
  obtain ⟨x3_1, x4_1, rfl, rfl, HA, HK1, ⟨m1, rfl⟩⟩ := hrel
  cases gk with
  | zero => exact absurd HA.out (by simp [gangwayref01_Num.l0])
  | succ k1 =>
   have H := HA.out
   clear HA
   simp only [gangwayref01_Num.l0] at H
   by_cases c2 : x4_1 < (a0.size : Int)
   ·rw [if_pos c2] at H
    have c2b0 : decide (x4_1 < (a0.size : Int)) = true := decide_eq_true c2
    clear c2
    by_cases c3 : 0 ≤ x4_1
    ·rw [if_pos c3] at H
     have c3b0 : decide (0 ≤ x4_1) = true := decide_eq_true c3
     clear c3
     have H' := Aside0.mk H
     clear H
     have p4 : 0 ≤ (x4_1 : Int) := of_decide_eq_true qlss
     have q4 : x4_1 < (a0.size : Int) := of_decide_eq_true qlss
     have hx4 := bt_at a0 x4_1
     replace p4 := eq_true p4
     replace q4 := eq_true q4
     go_wp2
     go_roundg k1
     case measure => have := HK1.out; omega
     case rel => exact ⟨(IntKind.u64.wrap ((IntKind.u64.wrap (x3_1 * 256)) + (IntKind.u64.wrap (bt a0 x4_1)))), (wrap64 (x4_1 + 1)), q8z4, q8z4, H', ⟨(by have := HK1.out; omega)⟩, qlmv⟩
    ·rw [if_neg c3] at H
     exact absurd H q6hr
   ·rw [if_neg c2] at H
    have c2b0 : decide (x4_1 < (a0.size : Int)) = false := decide_eq_false c2
    clear c2
    obtain rfl := Option.some.inj H
    exact z22_2
/-! ### gangwayref05_Check: function 65 -/
def gangwayref05_Check.f (a0_0 : Int) (a0_1 : Int) (a0_2 : Int) (a0_3 : Int) (a0_4 : Int) : Option (Int) := if a0_0 < 1 then (some 51) else (if a0_0 > 2 then (some 51) else ((gangwayref02_Own.f a0_1).bind fun t264 => (if t264 = true then (if (a0_3 / 281474976710656) = 0 then (some 0) else (some 51)) else (some 51))))
set_option maxHeartbeats 8000000 in
set_option maxRecDepth 100000 in
theorem gangwayref05_Check.calls (a0_0 : Int) (a0_1 : Int) (a0_2 : Int) (a0_3 : Int) (a0_4 : Int) (r : Int) (w : World) (h : gangwayref05_Check.f a0_0 a0_1 a0_2 a0_3 a0_4 = some r) :
  Calls Tryd.prog 65 #[.agg #[.int .i64 a0_0, .int .u64 a0_1, .int .u32 a0_2, .int .u64 a0_3, .int .u32 a0_4]] w fun e w' => e = .returned (.int .i64 r) ∧ Below w.heap.size w w' := by
 have hu35 := Tryd.underlying35
 have HB := Aside0.mk (Below.refl w.heap.size w)
 have H := h
 unfold gangwayref05_Check.f at H
 clear h
 by_cases c2 : a0_0 < 1
 ·rw [if_pos c2] at H
  have c2b0 : decide (a0_0 < 1) = true := decide_eq_true c2
  clear c2
  exact z22_1
 ·rw [if_neg c2] at H
  have c2b0 : decide (a0_0 < 1) = false := decide_eq_false c2
  clear c2
  by_cases c5 : a0_0 > 2
  ·rw [if_pos c5] at H
   have c5b0 : decide (2 < a0_0) = true := decide_eq_true c5
   clear c5
   exact z22_1
  ·rw [if_neg c5] at H
   have c5b0 : decide (2 < a0_0) = false := decide_eq_false c5
   clear c5
   replace H := Option.bind_eq_some_iff.mp H
   obtain ⟨t264, A80, H⟩ := H
   try dsimp only at H
   have A8 := Aside0.mk A80
   clear A80
   by_cases c9 : t264 = true
   ·subst c9
    rw [if_pos rfl] at H
    by_cases c10 : (a0_3 / 281474976710656) = 0
    ·rw [if_pos c10] at H
     have c10b0 : ((a0_3 / 281474976710656) == 0) = true := beq_iff_eq.mpr c10
     have c10b1 : ((a0_3 / 281474976710656) != 0) = false := bne_eq_false_iff_eq.mpr c10
     clear c10
     exact z22_0
    ·rw [if_neg c10] at H
     have c10b0 : ((a0_3 / 281474976710656) == 0) = false := beq_eq_false_iff_ne.mpr c10
     have c10b1 : ((a0_3 / 281474976710656) != 0) = true := bne_iff_ne.mpr c10
     exact z22_0
   ·replace c9 := Bool.eq_false_iff.mpr c9
    subst c9
    rw [if_neg (show ¬ (false = true) by decide)] at H
    obtain rfl := Option.some.inj H
    go_enter Tryd.func65, Tryd.ntmps65
    go_wp2_with (first | ((with_reducible refine gate_st (ty := 35) rfl ?_); refine storeC5 rfl rfl rfl rfl rfl qxb4 qr2c qg3m rfl ?_) | ((with_reducible refine gate_ld (ty := 35) rfl ?_); (try (with_reducible refine gate_gd rfl ?_; refine gate_guard q8ju ?_; dsimp only)); refine load_st rfl rfl rfl qxb4 qr2c Tryd.underlying35 rfl qg3m ?_; (try simp only [Act.put, List.setIfInBounds_toArray, List.set_cons_zero, List.set_cons_succ])) | ((with_reducible refine gate_dst (N := 1) rfl ?_); refine box_event qgcr (N := 1) qgcr (cs := #[.int .i64 a0_0, .int .u64 a0_1, .int .u32 a0_2, .int .u64 a0_3, .int .u32 a0_4]) (t := 35) qlto ?_; intro gb263 hg w15 hbox hb; have BK263 := Aside0.mk (hbox); have GE263 := Aside0.mk ((qisx : w.heap.size ≤ gb263)); replace HB := Aside0.mk (below_step qpag hb); clear hb hbox hg; obtain ⟨hcz16_0, hcz16_1, hcz16_2, hcz16_3, hcz16_4⟩ := cells5 BK263.out; obtain ⟨hfz16_0, hfz16_1, hfz16_2, hfz16_3, hfz16_4⟩ := frozen5 BK263.out) | (go_at_call 18; (with_reducible refine (gangwayref02_Own.calls a0_1 false _ A8.out).mono ?_); rintro e w' ⟨rfl, ⟨nd, rfl⟩⟩))
    go_ret
    exact ⟨qxu5, (by repeat (first | (with_reducible first | exact HB.out | apply below_alloc | apply pw_below_drewN | apply below_drew1 | refine below_set ?_ GE263.out) | exact HB.out))⟩
end Go.Proofs.YtbkgaplldfilnaaDoor.P
