-- slim
-- Written by wip/hprint.py (this session's program) through the kit's print program; hand contracts are marked 'by hand'.
import Derived.Test.YtbkgaplldfilnaaDoorAbb
import Derived.Test.YtbkgaplldfilnaaDoorRow
import Derived.Test.YtbkgaplldfilnaaDoorPx0
import Derived.Test.YtbkgaplldfilnaaDoorPx12
import Derived.Test.YtbkgaplldfilnaaDoorPx10
namespace Go.Proofs.YtbkgaplldfilnaaDoor.P
open Go.RowKit Go.Proofs.YtbkgaplldfilnaaDoorW.PrintWords Go.Proofs.YtbkgaplldfilnaaDoorW.PrintLast Go.Proofs.YtbkgaplldfilnaaDoorW.PrintMore
attribute [local go_sem] max2_int min2_int max_two min_two max_three min_three max_four min_four   -- for this text's walks alone
set_option linter.unusedVariables false
set_option linter.unusedSimpArgs false

/-! ### inet_number: function 76, by hand -/
-- IMPORT Derived.Test.YtbkgaplldfilnaaDoorAsOdd
def inet_number.f (a0 : Option Int) : Option (Int) := match a0 with
 | none => none
 | some c => if c < 1000 then some c else none
set_option maxHeartbeats 4000000 in
theorem inet_number.calls (a0 : Option Int) (r : Int) (w : World) (hL : Laid w) (h : inet_number.f a0 = some r) :
  Calls Tryd.prog 76 #[errW a0] w fun e w' => e = .returned (.int .i64 r) ∧ Below w.heap.size w w' := by
 unfold inet_number.f at h
 cases a0 with
 | none => cases h
 | some c =>
  by_cases hc : c < 1000
  ·rw [show (match some c with | none => none | some c => if c < 1000 then some c else none : Option Int) = if c < 1000 then some c else none from rfl, if_pos hc] at h
   obtain rfl := Option.some.inj h
   clear h
   have HL := Aside0.mk hL
   clear hL
   rw [errW_some]
   unfold errT_ errP_
   rw [if_pos hc, if_pos hc]
   go_enter Tryd.func76, Tryd.ntmps76
   go_wp2_with (go_at_call 16; refine (as_hit c ⟨w.heap.size, 0, none⟩ (.int .i64 0) _ (laid_below HL.out (below_alloc (Below.refl _ _) _)) ((blk_cell (blk_new w _) 0).trans rfl) (blk_frozen (blk_new w _) 0)).mono ?_; rintro e1 w1 ⟨rfl, w2, hb, hc, hf, rfl⟩; have HB := Aside0.mk (below_step (below_alloc (Below.refl w.heap.size w) (.cells #[.int .i64 0] 42)) hb); clear hb)
   go_ret
   exact ⟨rfl, below_set HB.out (Nat.le_refl _)⟩
  ·rw [show (match some c with | none => none | some c => if c < 1000 then some c else none : Option Int) = if c < 1000 then some c else none from rfl, if_neg hc] at h
   cases h

/-! ### inet_Parse: function 59 -/
def inet_Parse.f (k : Nat) (a0 : ByteArray) : Option (Int × Int × Bool × Bool × Int × Int × Int × Int × Int × ByteArray × Int) := (inet_read.f k a0).bind fun bt142 => (if bt142.2.2.2.2.2.2.2.2.2.2.isNone = true then (some (bt142.1, bt142.2.1, bt142.2.2.1, bt142.2.2.2.1, bt142.2.2.2.2.1, bt142.2.2.2.2.2.1, bt142.2.2.2.2.2.2.1, bt142.2.2.2.2.2.2.2.1, bt142.2.2.2.2.2.2.2.2.1, bt142.2.2.2.2.2.2.2.2.2.1, 0)) else ((inet_number.f (some (bt142.2.2.2.2.2.2.2.2.2.2.getD 0))).bind fun t155 => (some (0, 0, false, false, 0, 0, 0, 0, 0, (⟨#[]⟩ : ByteArray), t155))))
theorem inet_Parse.mono : ∀ a0 k, LeO (inet_Parse.f k a0) (inet_Parse.f (k + 1) a0) := by
 intro a0 k
 unfold inet_Parse.f
 repeat' first
   | (with_reducible exact inet_read.mono _ _)
   | (with_reducible exact LeO.refl _)
   | (with_reducible exact LeO.none _)
   | (with_reducible refine LeO.ite ?_ ?_)
   | (with_reducible refine LeO.bind ?_ (fun _ => ?_))
   | exact inet_read.mono _ _
   | exact LeO.none _
   | refine LeO.ite ?_ ?_
   | refine LeO.bind ?_ (fun _ => ?_)
set_option maxHeartbeats 8000000 in
set_option maxRecDepth 100000 in
theorem inet_Parse.calls (k : Nat) (a0 : ByteArray) (r1 : Int) (r2 : Int) (r3 : Bool) (r4 : Bool) (r5 : Int) (r6 : Int) (r7 : Int) (r8 : Int) (r9 : Int) (r10 : ByteArray) (r11 : Int) (w : World) (hL : Laid w) (h : inet_Parse.f k a0 = some (r1, r2, r3, r4, r5, r6, r7, r8, r9, r10, r11)) :
  Calls Tryd.prog 59 #[.string a0] w fun e w' => e = .returned (.tuple #[.agg #[.int .i64 r1, .int .i64 r2, .bool r3, .bool r4, .int .i64 r5, .int .i64 r6, .int .i64 r7, .int .u32 r8, .int .u32 r9, .string r10], .int .i64 r11]) ∧ Below w.heap.size w w' := by
 have HLD := Aside0.mk hL
 clear hL
 have hu64 := Tryd.underlying64
 have hu51 := Tryd.underlying51
 have HB := Aside0.mk (Below.refl w.heap.size w)
 have H : ((inet_read.f k a0).bind fun bt142 => (if bt142.2.2.2.2.2.2.2.2.2.2.isNone = true then (some (bt142.1, bt142.2.1, bt142.2.2.1, bt142.2.2.2.1, bt142.2.2.2.2.1, bt142.2.2.2.2.2.1, bt142.2.2.2.2.2.2.1, bt142.2.2.2.2.2.2.2.1, bt142.2.2.2.2.2.2.2.2.1, bt142.2.2.2.2.2.2.2.2.2.1, 0)) else ((inet_number.f (some (bt142.2.2.2.2.2.2.2.2.2.2.getD 0))).bind fun t155 => (some (0, 0, false, false, 0, 0, 0, 0, 0, (⟨#[]⟩ : ByteArray), t155))))) = some (r1, r2, r3, r4, r5, r6, r7, r8, r9, r10, r11) := h
 clear h
 replace H := Option.bind_eq_some_iff.mp H
 obtain ⟨⟨t142, t143, t144, t145, t146, t147, t148, t149, t150, t151, t152⟩, A20, H⟩ := H
 try dsimp only at H
 have A2 := Aside0.mk A20
 clear A20
 rcases t152 with _ | q154
 ·have H1 : (some (t142, t143, t144, t145, t146, t147, t148, t149, t150, t151, 0)) = some (r1, r2, r3, r4, r5, r6, r7, r8, r9, r10, r11) := by rw [if_pos (show (none : Option Int).isNone = true by rfl)] at H; exact H
  clear H
  have H := H1
  clear H1
  try simp only [errW_none, errW_some]
  simp only [Option.some.injEq, Prod.mk.injEq] at H
  obtain ⟨rfl, rfl, rfl, rfl, rfl, rfl, rfl, rfl, rfl, rfl, rfl⟩ := H
  go_enter Tryd.func59, Tryd.ntmps59
  go_wp2_with (first | ((with_reducible refine gate_st (ty := 64) rfl ?_); refine storeC10 rfl rfl rfl rfl rfl q6ww qr2c qg3m rfl ?_) | ((with_reducible refine gate_ld (ty := 64) rfl ?_); (try (with_reducible refine gate_gd rfl ?_; refine gate_guard q8ju ?_; dsimp only)); refine load_st rfl rfl rfl q6ww qr2c Tryd.underlying64 rfl qg3m ?_; (try simp only [Act.put, List.setIfInBounds_toArray, List.set_cons_zero, List.set_cons_succ])) | ((with_reducible refine gate_dst (N := 2) rfl ?_); refine box_event qgcr (N := 2) qgcr (cs := #[.int .i64 0, .int .i64 0, .bool false, .bool false, .int .i64 0, .int .i64 0, .int .i64 0, .int .u32 0, .int .u32 0, .string (⟨#[]⟩ : ByteArray)]) (t := 64) qlto ?_; intro gb141 hg w3 hbox hb; have BK141 := Aside0.mk (hbox); have GE141 := Aside0.mk ((qisx : w.heap.size ≤ gb141)); replace HB := Aside0.mk (below_step qpag hb); clear hb hbox hg) | ((with_reducible refine gate_callee (f := 75) rfl ?_); refine goesL_ (some 8) rfl rfl Tryd.func75 qg3m rfl #[.string a0] rfl qraq ?_; (with_reducible refine (inet_read.calls k a0 t142 t143 t144 t145 t146 t147 t148 t149 t150 t151 none _ A2.out).mono ?_); rintro e w4 ⟨rfl, hb⟩; refine ⟨_, rfl, ?_⟩; replace BK141 := Aside0.mk (blk_below (g := gb141) q4ga hb); replace HB := Aside0.mk (below_step qf7q hb); obtain ⟨hcy1_141_0, hcy1_141_1, hcy1_141_2, hcy1_141_3, hcy1_141_4, hcy1_141_5, hcy1_141_6, hcy1_141_7, hcy1_141_8, hcy1_141_9⟩ := cells10 BK141.out; (try clear hb); (try clear hb2); (try clear hk); (try clear hi); (try simp only [errW_none, errW_some])) | ((with_reducible refine gate_dst (N := 4) rfl ?_); refine box_event qgcr (N := 4) qgcr (cs := #[.int .i64 0, .int .i64 0, .bool false, .bool false, .int .i64 0, .int .i64 0, .int .i64 0, .int .u32 0, .int .u32 0, .string (⟨#[]⟩ : ByteArray)]) (t := 64) qlto ?_; intro gb153 hg w5 hbox hb; have BK153 := Aside0.mk (hbox); have GE153 := Aside0.mk ((by rw [hg]; exact (below_size qf7q) : w.heap.size ≤ gb153)); have NB141_153 := Aside0.mk ((by rw [hg]; exact Nat.ne_of_lt (blk_lt (g := gb141) q4ga) : gb141 ≠ gb153)); have NB153_141 := Aside0.mk ((by rw [hg]; exact Nat.ne_of_gt (blk_lt (g := gb141) q4ga) : gb153 ≠ gb141)); replace BK141 := Aside0.mk (blk_below (g := gb141) q4ga hb); replace HB := Aside0.mk (below_step qf7q hb); clear hb hbox hg; have hnb6 := NB153_141.out; have hnc6 := NB141_153.out; obtain ⟨hcz7_0, hcz7_1, hcz7_2, hcz7_3, hcz7_4, hcz7_5, hcz7_6, hcz7_7, hcz7_8, hcz7_9⟩ := cells10 BK153.out; obtain ⟨hfz7_0, hfz7_1, hfz7_2, hfz7_3, hfz7_4, hfz7_5, hfz7_6, hfz7_7, hfz7_8, hfz7_9⟩ := frozen10 BK153.out; obtain ⟨hcz8_0, hcz8_1, hcz8_2, hcz8_3, hcz8_4, hcz8_5, hcz8_6, hcz8_7, hcz8_8, hcz8_9⟩ := cells10 BK141.out; obtain ⟨hfz8_0, hfz8_1, hfz8_2, hfz8_3, hfz8_4, hfz8_5, hfz8_6, hfz8_7, hfz8_8, hfz8_9⟩ := frozen10 BK141.out))
  refine bodyPost_ret (results_ct rfl _ _ gb141 64 #[.int .i64 t142, .int .i64 t143, .bool t144, .bool t145, .int .i64 t146, .int .i64 t147, .int .i64 t148, .int .u32 t149, .int .u32 t150, .string t151] (0, 0) _ rfl (by (with_reducible repeat (first | refine blk_drewN ?_ _ | refine blk_drew ?_ | refine blk_alloc ?_ _)); exact put10_0_10 q0zq) Tryd.underlying64 rfl qg3m) rfl ?_
  exact ⟨qxu5, q6oo⟩
 ·have H1 : ((inet_number.f (some q154)).bind fun t155 => (some (0, 0, false, false, 0, 0, 0, 0, 0, (⟨#[]⟩ : ByteArray), t155))) = some (r1, r2, r3, r4, r5, r6, r7, r8, r9, r10, r11) := by rw [if_neg (show ¬ (some q154).isNone = true by simp)] at H; exact H
  clear H
  have H := H1
  clear H1
  try simp only [errW_none, errW_some]
  replace H := Option.bind_eq_some_iff.mp H
  obtain ⟨t155, A90, H⟩ := H
  try dsimp only at H
  have A9 := Aside0.mk A90
  clear A90
  simp only [Option.some.injEq, Prod.mk.injEq] at H
  obtain ⟨rfl, rfl, rfl, rfl, rfl, rfl, rfl, rfl, rfl, rfl, rfl⟩ := H
  go_enter Tryd.func59, Tryd.ntmps59
  go_wp2_with (first | ((with_reducible refine gate_st (ty := 64) rfl ?_); refine storeC10 rfl rfl rfl rfl rfl q6ww qr2c qg3m rfl ?_) | ((with_reducible refine gate_ld (ty := 64) rfl ?_); (try (with_reducible refine gate_gd rfl ?_; refine gate_guard q8ju ?_; dsimp only)); refine load_st rfl rfl rfl q6ww qr2c Tryd.underlying64 rfl qg3m ?_; (try simp only [Act.put, List.setIfInBounds_toArray, List.set_cons_zero, List.set_cons_succ])) | ((with_reducible refine gate_dst (N := 2) rfl ?_); refine box_event qgcr (N := 2) qgcr (cs := #[.int .i64 0, .int .i64 0, .bool false, .bool false, .int .i64 0, .int .i64 0, .int .i64 0, .int .u32 0, .int .u32 0, .string (⟨#[]⟩ : ByteArray)]) (t := 64) qlto ?_; intro gb141 hg w10 hbox hb; have BK141 := Aside0.mk (hbox); have GE141 := Aside0.mk ((qisx : w.heap.size ≤ gb141)); replace HB := Aside0.mk (below_step qpag hb); clear hb hbox hg) | ((with_reducible refine gate_callee (f := 75) rfl ?_); refine goesL_ (some 8) rfl rfl Tryd.func75 qg3m rfl #[.string a0] rfl qraq ?_; (with_reducible refine (inet_read.calls k a0 t142 t143 t144 t145 t146 t147 t148 t149 t150 t151 (some q154) _ A2.out).mono ?_); rintro e w11 ⟨rfl, hb⟩; refine ⟨_, rfl, ?_⟩; replace BK141 := Aside0.mk (blk_below (g := gb141) q4ga hb); replace HB := Aside0.mk (below_step qf7q hb); obtain ⟨hcy1_141_0, hcy1_141_1, hcy1_141_2, hcy1_141_3, hcy1_141_4, hcy1_141_5, hcy1_141_6, hcy1_141_7, hcy1_141_8, hcy1_141_9⟩ := cells10 BK141.out; (try clear hb); (try clear hb2); (try clear hk); (try clear hi); (try simp only [errW_none, errW_some])) | ((with_reducible refine gate_dst (N := 4) rfl ?_); refine box_event qgcr (N := 4) qgcr (cs := #[.int .i64 0, .int .i64 0, .bool false, .bool false, .int .i64 0, .int .i64 0, .int .i64 0, .int .u32 0, .int .u32 0, .string (⟨#[]⟩ : ByteArray)]) (t := 64) qlto ?_; intro gb153 hg w12 hbox hb; have BK153 := Aside0.mk (hbox); have GE153 := Aside0.mk ((by rw [hg]; exact (below_size qf7q) : w.heap.size ≤ gb153)); have NB141_153 := Aside0.mk ((by rw [hg]; exact Nat.ne_of_lt (blk_lt (g := gb141) q4ga) : gb141 ≠ gb153)); have NB153_141 := Aside0.mk ((by rw [hg]; exact Nat.ne_of_gt (blk_lt (g := gb141) q4ga) : gb153 ≠ gb141)); replace BK141 := Aside0.mk (blk_below (g := gb141) q4ga hb); replace HB := Aside0.mk (below_step qf7q hb); obtain ⟨hcy2_141_0, hcy2_141_1, hcy2_141_2, hcy2_141_3, hcy2_141_4, hcy2_141_5, hcy2_141_6, hcy2_141_7, hcy2_141_8, hcy2_141_9⟩ := cells10 BK141.out; clear hb hbox hg; have hnb13 := NB153_141.out; have hnc13 := NB141_153.out; obtain ⟨hcz14_0, hcz14_1, hcz14_2, hcz14_3, hcz14_4, hcz14_5, hcz14_6, hcz14_7, hcz14_8, hcz14_9⟩ := cells10 BK153.out; obtain ⟨hfz14_0, hfz14_1, hfz14_2, hfz14_3, hfz14_4, hfz14_5, hfz14_6, hfz14_7, hfz14_8, hfz14_9⟩ := frozen10 BK153.out; have CA9 := fun W hL_ => inet_number.calls (some q154) t155 W hL_ A9.out; try simp only [errW_none, errW_some] at CA9) | (go_at_call 76; (with_reducible refine (CA9 _ ?sideL).mono ?_); (case sideL => exact laid_below HLD.out q6oo); rintro e w15 ⟨rfl, hb⟩; replace BK141 := Aside0.mk (blk_below (g := gb141) (o := .cells #[.int .i64 0, .int .i64 0, .bool false, .bool false, .int .i64 0, .int .i64 0, .int .i64 0, .int .u32 0, .int .u32 0, .string (⟨#[]⟩ : ByteArray)] 64 (0, 0)) q0zq hb); replace BK153 := Aside0.mk (blk_below (g := gb153) (o := .cells #[.int .i64 t142, .int .i64 t143, .bool t144, .bool t145, .int .i64 t146, .int .i64 t147, .int .i64 t148, .int .u32 t149, .int .u32 t150, .string t151] 64 (0, 0)) (by (with_reducible repeat (first | refine blk_drewN ?_ _ | refine blk_drew ?_ | refine blk_alloc ?_ _)); exact put10_0_10 (by (with_reducible repeat (first | refine blk_drewN ?_ _ | refine blk_drew ?_ | refine blk_alloc ?_ _)); exact BK153.out)) hb); replace HB := Aside0.mk (below_step q6oo hb); (try clear hb); (try clear hb2); (try clear hk); (try clear hi); obtain ⟨hcz16_0, hcz16_1, hcz16_2, hcz16_3, hcz16_4, hcz16_5, hcz16_6, hcz16_7, hcz16_8, hcz16_9⟩ := cells10 BK141.out; obtain ⟨hfz16_0, hfz16_1, hfz16_2, hfz16_3, hfz16_4, hfz16_5, hfz16_6, hfz16_7, hfz16_8, hfz16_9⟩ := frozen10 BK141.out))
  refine bodyPost_ret (results_ct rfl _ _ gb141 64 #[.int .i64 0, .int .i64 0, .bool false, .bool false, .int .i64 0, .int .i64 0, .int .i64 0, .int .u32 0, .int .u32 0, .string (⟨#[]⟩ : ByteArray)] (0, 0) _ rfl (by (with_reducible repeat (first | refine blk_drewN ?_ _ | refine blk_drew ?_ | refine blk_alloc ?_ _)); exact put10_0_10 q4ga) Tryd.underlying64 rfl qg3m) rfl ?_
  exact ⟨qxu5, q6oo⟩

/-! ### inet_Part: function 60 -/
def inet_Part.f (a0_0 : Int) (a0_1 : Int) (a0_2 : Bool) (a0_3 : Bool) (a0_4 : Int) (a0_5 : Int) (a0_6 : Int) (a0_7 : Int) (a0_8 : Int) (a0_9 : ByteArray) : Option (Bool) := if a0_3 = true then (some true) else (some (decide (a0_4 > 0)))
set_option maxHeartbeats 8000000 in
set_option maxRecDepth 100000 in
theorem inet_Part.calls (a0_0 : Int) (a0_1 : Int) (a0_2 : Bool) (a0_3 : Bool) (a0_4 : Int) (a0_5 : Int) (a0_6 : Int) (a0_7 : Int) (a0_8 : Int) (a0_9 : ByteArray) (r : Bool) (w : World) (h : inet_Part.f a0_0 a0_1 a0_2 a0_3 a0_4 a0_5 a0_6 a0_7 a0_8 a0_9 = some r) :
  Calls Tryd.prog 60 #[.agg #[.int .i64 a0_0, .int .i64 a0_1, .bool a0_2, .bool a0_3, .int .i64 a0_4, .int .i64 a0_5, .int .i64 a0_6, .int .u32 a0_7, .int .u32 a0_8, .string a0_9]] w fun e w' => e = .returned (.bool r) ∧ Below w.heap.size w w' := by
 have hu64 := Tryd.underlying64
 have HB := Aside0.mk (Below.refl w.heap.size w)
 have H : (if a0_3 = true then (some true) else (some (decide (a0_4 > 0)))) = some r := h
 clear h
 by_cases c2 : a0_3 = true
 ·subst c2
  rw [if_pos rfl] at H
  obtain rfl := Option.some.inj H
  go_enter Tryd.func60, Tryd.ntmps60
  go_wp2_with (first | ((with_reducible refine gate_st (ty := 64) rfl ?_); refine storeC10 rfl rfl rfl rfl rfl qwv1 qr2c qg3m rfl ?_) | ((with_reducible refine gate_ld (ty := 64) rfl ?_); (try (with_reducible refine gate_gd rfl ?_; refine gate_guard q8ju ?_; dsimp only)); refine load_st rfl rfl rfl qwv1 qr2c Tryd.underlying64 rfl qg3m ?_; (try simp only [Act.put, List.setIfInBounds_toArray, List.set_cons_zero, List.set_cons_succ])) | ((with_reducible refine gate_dst (N := 1) rfl ?_); refine box_event qgcr (N := 1) qgcr (cs := #[.int .i64 a0_0, .int .i64 a0_1, .bool a0_2, .bool true, .int .i64 a0_4, .int .i64 a0_5, .int .i64 a0_6, .int .u32 a0_7, .int .u32 a0_8, .string a0_9]) (t := 64) qlto ?_; intro gb156 hg w3 hbox hb; have BK156 := Aside0.mk (hbox); have GE156 := Aside0.mk ((qisx : w.heap.size ≤ gb156)); replace HB := Aside0.mk (below_step qpag hb); clear hb hbox hg; obtain ⟨hcz4_0, hcz4_1, hcz4_2, hcz4_3, hcz4_4, hcz4_5, hcz4_6, hcz4_7, hcz4_8, hcz4_9⟩ := cells10 BK156.out; obtain ⟨hfz4_0, hfz4_1, hfz4_2, hfz4_3, hfz4_4, hfz4_5, hfz4_6, hfz4_7, hfz4_8, hfz4_9⟩ := frozen10 BK156.out))
  go_ret
  exact ⟨qxu5, qjab⟩
 ·replace c2 := Bool.eq_false_iff.mpr c2
  subst c2
  rw [if_neg (show ¬ (false = true) by decide)] at H
  obtain rfl := Option.some.inj H
  go_enter Tryd.func60, Tryd.ntmps60
  go_wp2_with (first | ((with_reducible refine gate_st (ty := 64) rfl ?_); refine storeC10 rfl rfl rfl rfl rfl qwv1 qr2c qg3m rfl ?_) | ((with_reducible refine gate_ld (ty := 64) rfl ?_); (try (with_reducible refine gate_gd rfl ?_; refine gate_guard q8ju ?_; dsimp only)); refine load_st rfl rfl rfl qwv1 qr2c Tryd.underlying64 rfl qg3m ?_; (try simp only [Act.put, List.setIfInBounds_toArray, List.set_cons_zero, List.set_cons_succ])) | ((with_reducible refine gate_dst (N := 1) rfl ?_); refine box_event qgcr (N := 1) qgcr (cs := #[.int .i64 a0_0, .int .i64 a0_1, .bool a0_2, .bool false, .int .i64 a0_4, .int .i64 a0_5, .int .i64 a0_6, .int .u32 a0_7, .int .u32 a0_8, .string a0_9]) (t := 64) qlto ?_; intro gb156 hg w5 hbox hb; have BK156 := Aside0.mk (hbox); have GE156 := Aside0.mk ((qisx : w.heap.size ≤ gb156)); replace HB := Aside0.mk (below_step qpag hb); clear hb hbox hg; obtain ⟨hcz6_0, hcz6_1, hcz6_2, hcz6_3, hcz6_4, hcz6_5, hcz6_6, hcz6_7, hcz6_8, hcz6_9⟩ := cells10 BK156.out; obtain ⟨hfz6_0, hfz6_1, hfz6_2, hfz6_3, hfz6_4, hfz6_5, hfz6_6, hfz6_7, hfz6_8, hfz6_9⟩ := frozen10 BK156.out))
  go_ret
  exact ⟨qxu5, qjab⟩

end Go.Proofs.YtbkgaplldfilnaaDoor.P
namespace Go.Proofs.YtbkgaplldfilnaaDoor.P
open Go.RowKit Go.Proofs.YtbkgaplldfilnaaDoorW.PrintWords Go.Proofs.YtbkgaplldfilnaaDoorW.PrintLast Go.Proofs.YtbkgaplldfilnaaDoorW.PrintMore
attribute [local go_sem] max2_int min2_int max_two min_two max_three min_three max_four min_four   -- for this text's walks alone
set_option linter.unusedVariables false
set_option linter.unusedSimpArgs false

/-! ### udp_Parse: function 61 -/
def udp_Parse.f (k : Nat) (a0 : Int) (a1 : Int) (a2 : ByteArray) : Option (Int × Int × Bool × ByteArray × Int) := (udp_wrong.f k a0 a1 a2).bind fun bt197 => (if bt197.1 = 0 then (some (0, 0, false, (⟨#[]⟩ : ByteArray), 70)) else (if bt197.1 = 2 then (some (0, 0, false, (⟨#[]⟩ : ByteArray), 70)) else (if bt197.1 = 1 then (some (0, 0, false, (⟨#[]⟩ : ByteArray), 71)) else (if bt197.1 = 3 then (some (0, 0, false, (⟨#[]⟩ : ByteArray), 72)) else ((octets_Get.f k a2 0 2).bind fun bt199 => ((octets_Get.f k a2 2 2).bind fun bt201 => (if 6 ≤ 8 then (if 8 ≤ (a2.size : Int) then (if 8 ≤ bt197.2 then (if bt197.2 ≤ (a2.size : Int) then (some (wrap64 (bt199.1), wrap64 (bt201.1), ((a2.extract 6 8).toList == ([0, 0] : List UInt8)), a2.extract 8 (bt197.2 : Int).toNat, 0)) else (none)) else (none)) else (none)) else (none))))))))
theorem udp_Parse.mono : ∀ a0 a1 a2 k, LeO (udp_Parse.f k a0 a1 a2) (udp_Parse.f (k + 1) a0 a1 a2) := by
 intro a0 a1 a2 k
 unfold udp_Parse.f
 repeat' first
   | (with_reducible exact octets_Get.mono _ _ _ _)
   | (with_reducible exact udp_wrong.mono _ _ _ _)
   | (with_reducible exact LeO.refl _)
   | (with_reducible exact LeO.none _)
   | (with_reducible refine LeO.ite ?_ ?_)
   | (with_reducible refine LeO.bind ?_ (fun _ => ?_))
   | exact octets_Get.mono _ _ _ _
   | exact udp_wrong.mono _ _ _ _
   | exact LeO.none _
   | refine LeO.ite ?_ ?_
   | refine LeO.bind ?_ (fun _ => ?_)
def udp_Parse.T12 : Bool × List (List Nat × List Nat) := (true, [([], []), ([0], [0]), ([], []), ([2], [2]), ([], []), ([4], [4]), ([5], [5]), ([], []), ([], []), ([7, 8], [7, 8]), ([1, 3, 6, 9], [1, 3, 6, 9]), ([10, 0, 1, 2, 3, 4, 5, 6, 7, 8, 9, 10], [10]), ([11, 0, 1, 2, 3, 4, 5, 6, 7, 8, 9, 10, 11], [])])
def udp_Parse.B12 : List Nat := [0, 1, 0, 4, 0, 16, 48, 0, 0, 384, 1023, 2047, 4095]
theorem udp_Parse.tab12 : rtab .any (opsOf Tryd.f61 12) = udp_Parse.T12 := by kernel_rfl
theorem udp_Parse.bits12 : waitsOk udp_Parse.T12.2 udp_Parse.B12 = true := by kernel_rfl
theorem z18_0 {p : Prop} (h : p := by
 simp only [Option.some.injEq, Prod.mk.injEq] at H
 obtain ⟨rfl, rfl, rfl, rfl, rfl⟩ := H
 go_enter Tryd.func61, Tryd.ntmps61
 go_wp2_with (first | ((with_reducible refine gate_dst (N := 6) rfl ?_); refine box_event qgcr (N := 6) qgcr (cs := #[.int .i64 0, .int .i64 0, .bool false, .string (⟨#[]⟩ : ByteArray)]) (t := 31) qlto ?_; intro gbz0 hg wz1 hbox hb; have BKz0 := Aside0.mk (hbox); have GEz0 := Aside0.mk ((qisx : w.heap.size ≤ gbz0)); replace HB := Aside0.mk (below_step qpag hb); clear hb hbox hg) | ((with_reducible refine gate_callee (f := 77) rfl ?_); refine goesL_ (some 18) rfl rfl Tryd.func77 qg3m rfl #[.int .u32 a0, .int .u32 a1, .string a2] rfl qraq ?_; (with_reducible refine (udp_wrong.calls k a0 a1 a2 t197 t198 _ A4.out).mono ?_); rintro e wz2 ⟨rfl, hb⟩; refine ⟨_, rfl, ?_⟩; replace BKz0 := Aside0.mk (blk_below (g := gbz0) qirs hb); replace HB := Aside0.mk (below_step qmef hb); (try clear hb); (try clear hb2); (try clear hk); (try clear hi); obtain ⟨hczz3_0, hczz3_1, hczz3_2, hczz3_3⟩ := cells4 BKz0.out; obtain ⟨hfzz3_0, hfzz3_1, hfzz3_2, hfzz3_3⟩ := frozen4 BKz0.out))
 refine bodyPost_ret (results_ct rfl _ _ gbz0 31 #[.int .i64 0, .int .i64 0, .bool false, .string (⟨#[]⟩ : ByteArray)] (0, 0) _ rfl qfew Tryd.underlying31 rfl qg3m) rfl ?_
 exact ⟨qxu5, qmef⟩) : p := h
theorem z18_1 {p : Prop} (h : p := by
 simp only [Act.put, List.setIfInBounds_toArray, List.set_cons_zero, List.set_cons_succ, i64_w, i32_w]
 rfl) : p := h
set_option maxHeartbeats 8000000 in
set_option maxRecDepth 100000 in
theorem udp_Parse.calls (k : Nat) (a0 : Int) (a1 : Int) (a2 : ByteArray) (r1 : Int) (r2 : Int) (r3 : Bool) (r4 : ByteArray) (r5 : Int) (w : World) (h : udp_Parse.f k a0 a1 a2 = some (r1, r2, r3, r4, r5)) :
  Calls Tryd.prog 61 #[.int .u32 a0, .int .u32 a1, .string a2] w fun e w' => e = .returned (.tuple #[.agg #[.int .i64 r1, .int .i64 r2, .bool r3, .string r4], .int .i64 r5]) ∧ Below w.heap.size w w' := by
 have hu31 := Tryd.underlying31
 have HB := Aside0.mk (Below.refl w.heap.size w)
 have H : ((udp_wrong.f k a0 a1 a2).bind fun bt197 => (if bt197.1 = 0 then (some (0, 0, false, (⟨#[]⟩ : ByteArray), 70)) else (if bt197.1 = 2 then (some (0, 0, false, (⟨#[]⟩ : ByteArray), 70)) else (if bt197.1 = 1 then (some (0, 0, false, (⟨#[]⟩ : ByteArray), 71)) else (if bt197.1 = 3 then (some (0, 0, false, (⟨#[]⟩ : ByteArray), 72)) else ((octets_Get.f k a2 0 2).bind fun bt199 => ((octets_Get.f k a2 2 2).bind fun bt201 => (if 6 ≤ 8 then (if 8 ≤ (a2.size : Int) then (if 8 ≤ bt197.2 then (if bt197.2 ≤ (a2.size : Int) then (some (wrap64 (bt199.1), wrap64 (bt201.1), ((a2.extract 6 8).toList == ([0, 0] : List UInt8)), a2.extract 8 (bt197.2 : Int).toNat, 0)) else (none)) else (none)) else (none)) else (none))))))))) = some (r1, r2, r3, r4, r5) := h
 clear h
 replace H := Option.bind_eq_some_iff.mp H
 obtain ⟨⟨t197, t198⟩, A40, H⟩ := H
 try dsimp only at H
 have A4 := Aside0.mk A40
 clear A40
 by_cases c5 : t197 = 0
 ·rw [if_pos c5] at H
  have c5b0 : (t197 == 0) = true := beq_iff_eq.mpr c5
  have c5b1 : (t197 != 0) = false := bne_eq_false_iff_eq.mpr c5
  clear c5
  exact z18_0
 ·rw [if_neg c5] at H
  have c5b0 : (t197 == 0) = false := beq_eq_false_iff_ne.mpr c5
  have c5b1 : (t197 != 0) = true := bne_iff_ne.mpr c5
  by_cases c9 : t197 = 2
  ·rw [if_pos c9] at H
   have c9b0 : (t197 == 2) = true := beq_iff_eq.mpr c9
   have c9b1 : (t197 != 2) = false := bne_eq_false_iff_eq.mpr c9
   clear c9
   exact z18_0
  ·rw [if_neg c9] at H
   have c9b0 : (t197 == 2) = false := beq_eq_false_iff_ne.mpr c9
   have c9b1 : (t197 != 2) = true := bne_iff_ne.mpr c9
   by_cases c13 : t197 = 1
   ·rw [if_pos c13] at H
    have c13b0 : (t197 == 1) = true := beq_iff_eq.mpr c13
    have c13b1 : (t197 != 1) = false := bne_eq_false_iff_eq.mpr c13
    clear c13
    exact z18_0
   ·rw [if_neg c13] at H
    have c13b0 : (t197 == 1) = false := beq_eq_false_iff_ne.mpr c13
    have c13b1 : (t197 != 1) = true := bne_iff_ne.mpr c13
    by_cases c17 : t197 = 3
    ·rw [if_pos c17] at H
     have c17b0 : (t197 == 3) = true := beq_iff_eq.mpr c17
     have c17b1 : (t197 != 3) = false := bne_eq_false_iff_eq.mpr c17
     clear c17
     exact z18_0
    ·rw [if_neg c17] at H
     have c17b0 : (t197 == 3) = false := beq_eq_false_iff_ne.mpr c17
     have c17b1 : (t197 != 3) = true := bne_iff_ne.mpr c17
     replace H := Option.bind_eq_some_iff.mp H
     obtain ⟨⟨t199, t200⟩, A210, H⟩ := H
     try dsimp only at H
     have A21 := Aside0.mk A210
     clear A210
     replace H := Option.bind_eq_some_iff.mp H
     obtain ⟨⟨t201, t202⟩, A220, H⟩ := H
     try dsimp only at H
     have A22 := Aside0.mk A220
     clear A220
     by_cases c23 : 6 ≤ 8
     ·rw [if_pos c23] at H
      have c23b0 := eq_true c23
      have c23b1 : decide (6 ≤ 8) = true := decide_eq_true c23
      clear c23
      by_cases c24 : 8 ≤ (a2.size : Int)
      ·rw [if_pos c24] at H
       have c24b0 := eq_true c24
       have c24b1 : decide (8 ≤ (a2.size : Int)) = true := decide_eq_true c24
       clear c24
       by_cases c25 : 8 ≤ t198
       ·rw [if_pos c25] at H
        have c25b0 := eq_true c25
        have c25b1 : decide (8 ≤ t198) = true := decide_eq_true c25
        clear c25
        by_cases c26 : t198 ≤ (a2.size : Int)
        ·rw [if_pos c26] at H
         have c26b0 := eq_true c26
         have c26b1 : decide (t198 ≤ (a2.size : Int)) = true := decide_eq_true c26
         clear c26
         simp only [Option.some.injEq, Prod.mk.injEq] at H
         obtain ⟨rfl, rfl, rfl, rfl, rfl⟩ := H
         go_enter Tryd.func61, Tryd.ntmps61
         try go_wp2_with (first | ((with_reducible refine gate_dst (N := 6) rfl ?_); refine box_event qgcr (N := 6) qgcr (cs := #[.int .i64 0, .int .i64 0, .bool false, .string (⟨#[]⟩ : ByteArray)]) (t := 31) qlto ?_; intro gb196 hg w27 hbox hb; have BK196 := Aside0.mk (hbox); have GE196 := Aside0.mk ((qisx : w.heap.size ≤ gb196)); replace HB := Aside0.mk (below_step qpag hb); clear hb hbox hg) | ((with_reducible refine gate_callee (f := 77) rfl ?_); refine goesL_ (some 18) rfl rfl Tryd.func77 qg3m rfl #[.int .u32 a0, .int .u32 a1, .string a2] rfl qraq ?_; (with_reducible refine (udp_wrong.calls k a0 a1 a2 t197 t198 _ A4.out).mono ?_); rintro e w28 ⟨rfl, hb⟩; refine ⟨_, rfl, ?_⟩; replace BK196 := Aside0.mk (blk_below (g := gb196) q4g6 hb); replace HB := Aside0.mk (below_step qhx6 hb); obtain ⟨hcy1_196_0, hcy1_196_1, hcy1_196_2, hcy1_196_3⟩ := cells4 BK196.out; (try clear hb); (try clear hb2); (try clear hk); (try clear hi)) | ((with_reducible refine gate_callee (f := 56) rfl ?_); refine goesL_ (some 35) rfl rfl Tryd.func56 qg3m rfl #[.string a2, .int .i64 0, .int .i64 2] rfl qraq ?_; (with_reducible refine (octets_Get.calls k a2 0 2 t199 t200 _ A21.out).mono ?_); rintro e w29 ⟨rfl, hb⟩; refine ⟨_, rfl, ?_⟩; replace BK196 := Aside0.mk (blk_below (g := gb196) q4g6 hb); replace HB := Aside0.mk (below_step qhx6 hb); obtain ⟨hcy2_196_0, hcy2_196_1, hcy2_196_2, hcy2_196_3⟩ := cells4 BK196.out; (try clear hb); (try clear hb2); (try clear hk); (try clear hi)) | ((with_reducible refine gate_callee (f := 56) rfl ?_); refine goesL_ (some 40) rfl rfl Tryd.func56 qg3m rfl #[.string a2, .int .i64 2, .int .i64 2] rfl qraq ?_; (with_reducible refine (octets_Get.calls k a2 2 2 t201 t202 _ A22.out).mono ?_); rintro e w30 ⟨rfl, hb⟩; refine ⟨_, rfl, ?_⟩; replace BK196 := Aside0.mk (blk_below (g := gb196) q4g6 hb); replace HB := Aside0.mk (below_step qhx6 hb); obtain ⟨hcy3_196_0, hcy3_196_1, hcy3_196_2, hcy3_196_3⟩ := cells4 BK196.out; (try clear hb); (try clear hb2); (try clear hk); (try clear hi)))
         replace BK196 := Aside0.mk (blk_drew BK196.out)
         replace HB := Aside0.mk (below_drew1 HB.out)
         refine start_ (n := 13) (S := fun w' => True) (ds := []) (ba 13 0) qg3m rfl rfl trivial (fun hHeld => ?_); refine with_tabW udp_Parse.tab12 udp_Parse.bits12 (fun HT_ HW_ => ?_)
         generalize w30.drew = w31 at BK196 HB hHeld ⊢
         refine pure_ (i := 0) (N := some 43) (v := ?_) (a' := ?_) (ba 13 1) rfl rfl (any_of HT_.out qg3m) (fun _ _ _ h => h) (Or.inl ⟨qgcr, ?_⟩) ?_ ?_
         rotate_left
         ·intro w'
          go_simp
          with_reducible rfl
         rotate_left
         ·exact z18_1
         refine pure_ (i := 1) (N := some 44) (v := ?_) (a' := ?_) (ba 13 3) rfl rfl (any_of HT_.out qg3m) (fun _ _ _ h => h) (Or.inl ⟨qgcr, ?_⟩) ?_ ?_
         rotate_left
         ·intro w'
          go_simp
          with_reducible rfl
         rotate_left
         ·exact z18_1
         refine pure_ (i := 2) (N := some 45) (v := ?_) (a' := ?_) (ba 13 7) rfl rfl (any_of HT_.out qg3m) (fun _ _ _ h => h) (Or.inl ⟨qgcr, ?_⟩) ?_ ?_
         rotate_left
         ·intro w'
          go_simp
          with_reducible rfl
         rotate_left
         ·exact z18_1
         refine pure_ (i := 3) (N := some 46) (v := ?_) (a' := ?_) (ba 13 15) rfl rfl (any_of HT_.out qg3m) (fun _ _ _ h => h) (Or.inl ⟨qgcr, ?_⟩) ?_ ?_
         rotate_left
         ·intro w'
          go_simp
          with_reducible rfl
         rotate_left
         ·exact z18_1
         refine pure_ (i := 4) (N := some 47) (v := ?_) (a' := ?_) (ba 13 31) rfl rfl (any_of HT_.out qg3m) (fun _ _ _ h => h) (Or.inl ⟨qgcr, ?_⟩) ?_ ?_
         rotate_left
         ·intro w'
          go_simp
          with_reducible rfl
         rotate_left
         ·exact z18_1
         refine pure_ (i := 5) (N := some 48) (v := ?_) (a' := ?_) (ba 13 63) rfl rfl (any_of HT_.out qg3m) (fun _ _ _ h => h) (Or.inl ⟨qgcr, ?_⟩) ?_ ?_
         rotate_left
         ·intro w'
          go_simp
          with_reducible rfl
         rotate_left
         ·exact z18_1
         refine pure_ (i := 6) (N := some 49) (v := ?_) (a' := ?_) (ba 13 127) rfl rfl (any_of HT_.out qg3m) (fun _ _ _ h => h) (Or.inl ⟨qgcr, ?_⟩) ?_ ?_
         rotate_left
         ·intro w'
          go_simp
          with_reducible rfl
         rotate_left
         ·exact z18_1
         refine pure_ (i := 7) (N := some 50) (v := ?_) (a' := ?_) (ba 13 255) rfl rfl (any_of HT_.out qg3m) (fun _ _ _ h => h) (Or.inl ⟨qgcr, ?_⟩) ?_ ?_
         rotate_left
         ·intro w'
          go_simp
          with_reducible rfl
         rotate_left
         ·exact z18_1
         refine pure_ (i := 8) (N := some 51) (v := ?_) (a' := ?_) (ba 13 511) rfl rfl (any_of HT_.out qg3m) (fun _ _ _ h => h) (Or.inl ⟨qgcr, ?_⟩) ?_ ?_
         rotate_left
         ·intro w'
          go_simp
          with_reducible rfl
         rotate_left
         ·exact z18_1
         refine pure_ (i := 9) (N := some 52) (v := ?_) (a' := ?_) (ba 13 1023) rfl rfl (any_of HT_.out qg3m) (fun _ _ _ h => h) (Or.inl ⟨qgcr, ?_⟩) ?_ ?_
         rotate_left
         ·intro w'
          go_simp
          with_reducible rfl
         rotate_left
         ·exact z18_1
         refine pure_ (i := 10) (N := some 53) (v := ?_) (a' := ?_) (ba 13 2047) rfl rfl (any_of HT_.out qg3m) (fun _ _ _ h => h) (Or.inl ⟨qgcr, ?_⟩) ?_ ?_
         rotate_left
         ·intro w'
          go_simp
          with_reducible rfl
         rotate_left
         ·exact z18_1
         refine one_ (i := 11) (N := none) (ba 13 4095) rfl rfl (one_of HT_.out qg3m) qomw (fun K hK => ?_)
         have hs32 : w31.cell? ⟨gb196, 0, none⟩ = some (.int .i64 0) := (blk_cell BK196.out 0).trans rfl
         have hfs32 := blk_frozen BK196.out 0
         have hs33 : w31.cell? ⟨gb196, 1, none⟩ = some (.int .i64 0) := (blk_cell BK196.out 1).trans rfl
         have hfs33 := blk_frozen BK196.out 1
         have hs34 : w31.cell? ⟨gb196, 2, none⟩ = some (.bool false) := (blk_cell BK196.out 2).trans rfl
         have hfs34 := blk_frozen BK196.out 2
         have hs35 : w31.cell? ⟨gb196, 3, none⟩ = some (.string (⟨#[]⟩ : ByteArray)) := (blk_cell BK196.out 3).trans rfl
         have hfs35 := blk_frozen BK196.out 3
         refine skip_ (w1 := ?_) qgcr rfl ?_ ?_
         rotate_left
         ·go_simp
          rfl
         refine hK.out _ _ trivial (fun hHeld => ?_)
         clear hK K
         refine pure_ (i := 12) (N := some 7) (v := ?_) (a' := ?_) (ba 13 8191) rfl rfl (any_of HT_.out qg3m) (fun _ _ _ h => h) (Or.inl ⟨qgcr, ?_⟩) ?_ ?_
         rotate_left
         ·intro w'
          go_simp
          with_reducible rfl
         rotate_left
         ·exact z18_1
         refine done_ (done_of HT_.out qg3m) ?_
         try go_wp2
         refine bodyPost_ret (results_ct rfl _ _ gb196 31 #[.int .i64 (wrap64 (t199)), .int .i64 (wrap64 (t201)), .bool ((a2.extract 6 8).toList == ([0, 0] : List UInt8)), .string (a2.extract 8 (t198 : Int).toNat)] (0, 0) _ rfl (by (with_reducible repeat (first | refine blk_drewN ?_ _ | refine blk_drew ?_ | refine blk_alloc ?_ _)); exact put4_0_4 q4g6) Tryd.underlying31 rfl qg3m) rfl ?_
         exact ⟨qxu5, qhx6⟩
        ·rw [if_neg c26] at H
         exact absurd H q6hr
       ·rw [if_neg c25] at H
        exact absurd H q6hr
      ·rw [if_neg c24] at H
       exact absurd H q6hr
     ·rw [if_neg c23] at H
      exact absurd H q6hr
end Go.Proofs.YtbkgaplldfilnaaDoor.P
