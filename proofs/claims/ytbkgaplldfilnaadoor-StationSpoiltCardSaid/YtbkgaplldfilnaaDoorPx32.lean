-- slim
-- Written by wip/hprint.py (this session's program) through the kit's print program; hand contracts are marked 'by hand'.
import Derived.Test.YtbkgaplldfilnaaDoorAbb
import Derived.Test.YtbkgaplldfilnaaDoorRow
import Derived.Test.YtbkgaplldfilnaaDoorPx0
namespace Go.Proofs.YtbkgaplldfilnaaDoor.P
open Go.RowKit Go.Proofs.YtbkgaplldfilnaaDoorW.PrintWords Go.Proofs.YtbkgaplldfilnaaDoorW.PrintLast Go.Proofs.YtbkgaplldfilnaaDoorW.PrintMore
attribute [local go_sem] max2_int min2_int max_two min_two max_three min_three max_four min_four   -- for this text's walks alone
set_option linter.unusedVariables false
set_option linter.unusedSimpArgs false

/-! ### inet_below: function 71 -/
def inet_below.f (a0 : Int) (a1 : Int) : Option (Bool) := if a0 ≥ 0 then (some (decide (a0 < a1))) else (some false)
theorem z32_0 {p : Prop} (h : p := by
 clear c12
 obtain rfl := Option.some.inj H
 go_enter Tryd.func46, Tryd.ntmps46
 go_wp2_with (first | ((with_reducible refine gate_st (ty := 64) rfl ?_); refine storeC10 rfl rfl rfl rfl rfl qppt qr2c qg3m rfl ?_) | ((with_reducible refine gate_ld (ty := 64) rfl ?_); (try (with_reducible refine gate_gd rfl ?_; refine gate_guard q8ju ?_; dsimp only)); refine load_st rfl rfl rfl qppt qr2c Tryd.underlying64 rfl qg3m ?_; (try simp only [Act.put, List.setIfInBounds_toArray, List.set_cons_zero, List.set_cons_succ])) | ((with_reducible refine gate_dst (N := 1) rfl ?_); (try (refine gate_guard qgcr ?_; dsimp only)); refine box_event qgcr (N := 1) qgcr (cs := #[.int .i64 a0_0, .int .i64 a0_1, .bool a0_2, .bool a0_3, .int .i64 a0_4, .int .i64 a0_5, .int .i64 a0_6, .int .u32 a0_7, .int .u32 a0_8, .string a0_9]) (t := 64) qlto ?_; intro gbz0 hg wz1 hbox hb; have BK443 := Aside0.mk (hbox); have GEz0 := Aside0.mk ((qisx : w.heap.size ≤ gbz0)); replace HB := Aside0.mk (below_step qpag hb); clear hb hbox hg; obtain ⟨hczz2_0, hczz2_1, hczz2_2, hczz2_3, hczz2_4, hczz2_5, hczz2_6, hczz2_7, hczz2_8, hczz2_9⟩ := cells10 BK443.out; obtain ⟨hfzz2_0, hfzz2_1, hfzz2_2, hfzz2_3, hfzz2_4, hfzz2_5, hfzz2_6, hfzz2_7, hfzz2_8, hfzz2_9⟩ := frozen10 BK443.out) | ((with_reducible refine gate_callee (f := 71) rfl ?_); refine goesL_ (some 5) rfl rfl Tryd.func71 qg3m rfl #[.int .i64 a0_0, .int .i64 256] rfl qraq ?_; (with_reducible refine (inet_below.calls a0_0 256 true _ A2.out).mono ?_); rintro e w' ⟨rfl, ⟨nd, rfl⟩⟩; refine ⟨_, rfl, ?_⟩) | (go_at_call 71; (with_reducible refine (inet_below.calls a0_5 256 true _ A4.out).mono ?_); rintro e w' ⟨rfl, ⟨nd, rfl⟩⟩) | (go_at_call 71; (with_reducible refine (inet_below.calls a0_6 256 true _ A6.out).mono ?_); rintro e w' ⟨rfl, ⟨nd, rfl⟩⟩) | (go_at_call 71; (with_reducible refine (inet_below.calls a0_1 65536 true _ A8.out).mono ?_); rintro e w' ⟨rfl, ⟨nd, rfl⟩⟩) | (go_at_call 71; (with_reducible refine (inet_below.calls a0_4 8192 true _ A10.out).mono ?_); rintro e w' ⟨rfl, ⟨nd, rfl⟩⟩))
 go_ret
 exact ⟨qxu5, qmef⟩) : p := h
theorem z32_1 {p : Prop} (h : p := by
 clear c3
 obtain rfl := Option.some.inj H
 go_enter Tryd.func71, Tryd.ntmps71
 go_wp2
 go_ret
 exact ⟨q8z4, qlmv⟩) : p := h
set_option maxHeartbeats 8000000 in
set_option maxRecDepth 100000 in
theorem inet_below.calls (a0 : Int) (a1 : Int) (r : Bool) (w : World) (h : inet_below.f a0 a1 = some r) :
  Calls Tryd.prog 71 #[.int .i64 a0, .int .i64 a1] w fun e w' => e = .returned (.bool r) ∧ Drawn0 w w' := by
 have H : (if a0 ≥ 0 then (some (decide (a0 < a1))) else (some false)) = some r := h
 clear h
 by_cases c3 : a0 ≥ 0
 ·rw [if_pos c3] at H
  have c3b0 : decide (0 ≤ a0) = true := decide_eq_true c3
  exact z32_1
 ·rw [if_neg c3] at H
  have c3b0 : decide (0 ≤ a0) = false := decide_eq_false c3
  exact z32_1
/-! ### inet_Check: function 46 -/
def inet_Check.f (a0_0 : Int) (a0_1 : Int) (a0_2 : Bool) (a0_3 : Bool) (a0_4 : Int) (a0_5 : Int) (a0_6 : Int) (a0_7 : Int) (a0_8 : Int) (a0_9 : ByteArray) : Option (Int) := (inet_below.f a0_0 256).bind fun t444 => (if t444 = true then ((inet_below.f a0_5 256).bind fun t445 => (if t445 = true then ((inet_below.f a0_6 256).bind fun t446 => (if t446 = true then ((inet_below.f a0_1 65536).bind fun t447 => (if t447 = true then ((inet_below.f a0_4 8192).bind fun t448 => (if t448 = true then (if (a0_9.size : Int) ≤ 65515 then (some 0) else (some 61)) else (some 61))) else (some 61))) else (some 61))) else (some 61))) else (some 61))
set_option maxHeartbeats 8000000 in
set_option maxRecDepth 100000 in
theorem inet_Check.calls (a0_0 : Int) (a0_1 : Int) (a0_2 : Bool) (a0_3 : Bool) (a0_4 : Int) (a0_5 : Int) (a0_6 : Int) (a0_7 : Int) (a0_8 : Int) (a0_9 : ByteArray) (r : Int) (w : World) (h : inet_Check.f a0_0 a0_1 a0_2 a0_3 a0_4 a0_5 a0_6 a0_7 a0_8 a0_9 = some r) :
  Calls Tryd.prog 46 #[.agg #[.int .i64 a0_0, .int .i64 a0_1, .bool a0_2, .bool a0_3, .int .i64 a0_4, .int .i64 a0_5, .int .i64 a0_6, .int .u32 a0_7, .int .u32 a0_8, .string a0_9]] w fun e w' => e = .returned (.int .i64 r) ∧ Below w.heap.size w w' := by
 have hu64 := Tryd.underlying64
 have HB := Aside0.mk (Below.refl w.heap.size w)
 have H : ((inet_below.f a0_0 256).bind fun t444 => (if t444 = true then ((inet_below.f a0_5 256).bind fun t445 => (if t445 = true then ((inet_below.f a0_6 256).bind fun t446 => (if t446 = true then ((inet_below.f a0_1 65536).bind fun t447 => (if t447 = true then ((inet_below.f a0_4 8192).bind fun t448 => (if t448 = true then (if (a0_9.size : Int) ≤ 65515 then (some 0) else (some 61)) else (some 61))) else (some 61))) else (some 61))) else (some 61))) else (some 61))) = some r := h
 clear h
 replace H := Option.bind_eq_some_iff.mp H
 obtain ⟨t444, A20, H⟩ := H
 try dsimp only at H
 have A2 := Aside0.mk A20
 clear A20
 by_cases c3 : t444 = true
 ·subst c3
  rw [if_pos rfl] at H
  replace H := Option.bind_eq_some_iff.mp H
  obtain ⟨t445, A40, H⟩ := H
  try dsimp only at H
  have A4 := Aside0.mk A40
  clear A40
  by_cases c5 : t445 = true
  ·subst c5
   rw [if_pos rfl] at H
   replace H := Option.bind_eq_some_iff.mp H
   obtain ⟨t446, A60, H⟩ := H
   try dsimp only at H
   have A6 := Aside0.mk A60
   clear A60
   by_cases c7 : t446 = true
   ·subst c7
    rw [if_pos rfl] at H
    replace H := Option.bind_eq_some_iff.mp H
    obtain ⟨t447, A80, H⟩ := H
    try dsimp only at H
    have A8 := Aside0.mk A80
    clear A80
    by_cases c9 : t447 = true
    ·subst c9
     rw [if_pos rfl] at H
     replace H := Option.bind_eq_some_iff.mp H
     obtain ⟨t448, A100, H⟩ := H
     try dsimp only at H
     have A10 := Aside0.mk A100
     clear A100
     by_cases c11 : t448 = true
     ·subst c11
      rw [if_pos rfl] at H
      by_cases c12 : (a0_9.size : Int) ≤ 65515
      ·rw [if_pos c12] at H
       have c12b0 : decide ((a0_9.size : Int) ≤ 65515) = true := decide_eq_true c12
       have c12b1 : decide (a0_9.size ≤ 65515) = true := decide_eq_true q1jy
       exact z32_0
      ·rw [if_neg c12] at H
       have c12b0 : decide ((a0_9.size : Int) ≤ 65515) = false := decide_eq_false c12
       have c12b1 : decide (a0_9.size ≤ 65515) = false := decide_eq_false q1jy
       exact z32_0
     ·replace c11 := Bool.eq_false_iff.mpr c11
      subst c11
      rw [if_neg (show ¬ (false = true) by decide)] at H
      obtain rfl := Option.some.inj H
      go_enter Tryd.func46, Tryd.ntmps46
      go_wp2_with (first | ((with_reducible refine gate_st (ty := 64) rfl ?_); refine storeC10 rfl rfl rfl rfl rfl qppt qr2c qg3m rfl ?_) | ((with_reducible refine gate_ld (ty := 64) rfl ?_); (try (with_reducible refine gate_gd rfl ?_; refine gate_guard q8ju ?_; dsimp only)); refine load_st rfl rfl rfl qppt qr2c Tryd.underlying64 rfl qg3m ?_; (try simp only [Act.put, List.setIfInBounds_toArray, List.set_cons_zero, List.set_cons_succ])) | ((with_reducible refine gate_dst (N := 1) rfl ?_); (try (refine gate_guard qgcr ?_; dsimp only)); refine box_event qgcr (N := 1) qgcr (cs := #[.int .i64 a0_0, .int .i64 a0_1, .bool a0_2, .bool a0_3, .int .i64 a0_4, .int .i64 a0_5, .int .i64 a0_6, .int .u32 a0_7, .int .u32 a0_8, .string a0_9]) (t := 64) qlto ?_; intro gb443 hg w17 hbox hb; have BK443 := Aside0.mk (hbox); have GE443 := Aside0.mk ((qisx : w.heap.size ≤ gb443)); replace HB := Aside0.mk (below_step qpag hb); clear hb hbox hg; obtain ⟨hcz18_0, hcz18_1, hcz18_2, hcz18_3, hcz18_4, hcz18_5, hcz18_6, hcz18_7, hcz18_8, hcz18_9⟩ := cells10 BK443.out; obtain ⟨hfz18_0, hfz18_1, hfz18_2, hfz18_3, hfz18_4, hfz18_5, hfz18_6, hfz18_7, hfz18_8, hfz18_9⟩ := frozen10 BK443.out) | ((with_reducible refine gate_callee (f := 71) rfl ?_); refine goesL_ (some 5) rfl rfl Tryd.func71 qg3m rfl #[.int .i64 a0_0, .int .i64 256] rfl qraq ?_; (with_reducible refine (inet_below.calls a0_0 256 true _ A2.out).mono ?_); rintro e w' ⟨rfl, ⟨nd, rfl⟩⟩; refine ⟨_, rfl, ?_⟩) | (go_at_call 71; (with_reducible refine (inet_below.calls a0_5 256 true _ A4.out).mono ?_); rintro e w' ⟨rfl, ⟨nd, rfl⟩⟩) | (go_at_call 71; (with_reducible refine (inet_below.calls a0_6 256 true _ A6.out).mono ?_); rintro e w' ⟨rfl, ⟨nd, rfl⟩⟩) | (go_at_call 71; (with_reducible refine (inet_below.calls a0_1 65536 true _ A8.out).mono ?_); rintro e w' ⟨rfl, ⟨nd, rfl⟩⟩) | (go_at_call 71; (with_reducible refine (inet_below.calls a0_4 8192 false _ A10.out).mono ?_); rintro e w' ⟨rfl, ⟨nd, rfl⟩⟩))
      go_ret
      exact ⟨qxu5, qzjl⟩
    ·replace c9 := Bool.eq_false_iff.mpr c9
     subst c9
     rw [if_neg (show ¬ (false = true) by decide)] at H
     obtain rfl := Option.some.inj H
     go_enter Tryd.func46, Tryd.ntmps46
     go_wp2_with (first | ((with_reducible refine gate_st (ty := 64) rfl ?_); refine storeC10 rfl rfl rfl rfl rfl qppt qr2c qg3m rfl ?_) | ((with_reducible refine gate_ld (ty := 64) rfl ?_); (try (with_reducible refine gate_gd rfl ?_; refine gate_guard q8ju ?_; dsimp only)); refine load_st rfl rfl rfl qppt qr2c Tryd.underlying64 rfl qg3m ?_; (try simp only [Act.put, List.setIfInBounds_toArray, List.set_cons_zero, List.set_cons_succ])) | ((with_reducible refine gate_dst (N := 1) rfl ?_); (try (refine gate_guard qgcr ?_; dsimp only)); refine box_event qgcr (N := 1) qgcr (cs := #[.int .i64 a0_0, .int .i64 a0_1, .bool a0_2, .bool a0_3, .int .i64 a0_4, .int .i64 a0_5, .int .i64 a0_6, .int .u32 a0_7, .int .u32 a0_8, .string a0_9]) (t := 64) qlto ?_; intro gb443 hg w19 hbox hb; have BK443 := Aside0.mk (hbox); have GE443 := Aside0.mk ((qisx : w.heap.size ≤ gb443)); replace HB := Aside0.mk (below_step qpag hb); clear hb hbox hg; obtain ⟨hcz20_0, hcz20_1, hcz20_2, hcz20_3, hcz20_4, hcz20_5, hcz20_6, hcz20_7, hcz20_8, hcz20_9⟩ := cells10 BK443.out; obtain ⟨hfz20_0, hfz20_1, hfz20_2, hfz20_3, hfz20_4, hfz20_5, hfz20_6, hfz20_7, hfz20_8, hfz20_9⟩ := frozen10 BK443.out) | ((with_reducible refine gate_callee (f := 71) rfl ?_); refine goesL_ (some 5) rfl rfl Tryd.func71 qg3m rfl #[.int .i64 a0_0, .int .i64 256] rfl qraq ?_; (with_reducible refine (inet_below.calls a0_0 256 true _ A2.out).mono ?_); rintro e w' ⟨rfl, ⟨nd, rfl⟩⟩; refine ⟨_, rfl, ?_⟩) | (go_at_call 71; (with_reducible refine (inet_below.calls a0_5 256 true _ A4.out).mono ?_); rintro e w' ⟨rfl, ⟨nd, rfl⟩⟩) | (go_at_call 71; (with_reducible refine (inet_below.calls a0_6 256 true _ A6.out).mono ?_); rintro e w' ⟨rfl, ⟨nd, rfl⟩⟩) | (go_at_call 71; (with_reducible refine (inet_below.calls a0_1 65536 false _ A8.out).mono ?_); rintro e w' ⟨rfl, ⟨nd, rfl⟩⟩))
     go_ret
     exact ⟨qxu5, qzjl⟩
   ·replace c7 := Bool.eq_false_iff.mpr c7
    subst c7
    rw [if_neg (show ¬ (false = true) by decide)] at H
    obtain rfl := Option.some.inj H
    go_enter Tryd.func46, Tryd.ntmps46
    go_wp2_with (first | ((with_reducible refine gate_st (ty := 64) rfl ?_); refine storeC10 rfl rfl rfl rfl rfl qppt qr2c qg3m rfl ?_) | ((with_reducible refine gate_ld (ty := 64) rfl ?_); (try (with_reducible refine gate_gd rfl ?_; refine gate_guard q8ju ?_; dsimp only)); refine load_st rfl rfl rfl qppt qr2c Tryd.underlying64 rfl qg3m ?_; (try simp only [Act.put, List.setIfInBounds_toArray, List.set_cons_zero, List.set_cons_succ])) | ((with_reducible refine gate_dst (N := 1) rfl ?_); (try (refine gate_guard qgcr ?_; dsimp only)); refine box_event qgcr (N := 1) qgcr (cs := #[.int .i64 a0_0, .int .i64 a0_1, .bool a0_2, .bool a0_3, .int .i64 a0_4, .int .i64 a0_5, .int .i64 a0_6, .int .u32 a0_7, .int .u32 a0_8, .string a0_9]) (t := 64) qlto ?_; intro gb443 hg w21 hbox hb; have BK443 := Aside0.mk (hbox); have GE443 := Aside0.mk ((qisx : w.heap.size ≤ gb443)); replace HB := Aside0.mk (below_step qpag hb); clear hb hbox hg; obtain ⟨hcz22_0, hcz22_1, hcz22_2, hcz22_3, hcz22_4, hcz22_5, hcz22_6, hcz22_7, hcz22_8, hcz22_9⟩ := cells10 BK443.out; obtain ⟨hfz22_0, hfz22_1, hfz22_2, hfz22_3, hfz22_4, hfz22_5, hfz22_6, hfz22_7, hfz22_8, hfz22_9⟩ := frozen10 BK443.out) | ((with_reducible refine gate_callee (f := 71) rfl ?_); refine goesL_ (some 5) rfl rfl Tryd.func71 qg3m rfl #[.int .i64 a0_0, .int .i64 256] rfl qraq ?_; (with_reducible refine (inet_below.calls a0_0 256 true _ A2.out).mono ?_); rintro e w' ⟨rfl, ⟨nd, rfl⟩⟩; refine ⟨_, rfl, ?_⟩) | (go_at_call 71; (with_reducible refine (inet_below.calls a0_5 256 true _ A4.out).mono ?_); rintro e w' ⟨rfl, ⟨nd, rfl⟩⟩) | (go_at_call 71; (with_reducible refine (inet_below.calls a0_6 256 false _ A6.out).mono ?_); rintro e w' ⟨rfl, ⟨nd, rfl⟩⟩))
    go_ret
    exact ⟨qxu5, qzjl⟩
  ·replace c5 := Bool.eq_false_iff.mpr c5
   subst c5
   rw [if_neg (show ¬ (false = true) by decide)] at H
   obtain rfl := Option.some.inj H
   go_enter Tryd.func46, Tryd.ntmps46
   go_wp2_with (first | ((with_reducible refine gate_st (ty := 64) rfl ?_); refine storeC10 rfl rfl rfl rfl rfl qppt qr2c qg3m rfl ?_) | ((with_reducible refine gate_ld (ty := 64) rfl ?_); (try (with_reducible refine gate_gd rfl ?_; refine gate_guard q8ju ?_; dsimp only)); refine load_st rfl rfl rfl qppt qr2c Tryd.underlying64 rfl qg3m ?_; (try simp only [Act.put, List.setIfInBounds_toArray, List.set_cons_zero, List.set_cons_succ])) | ((with_reducible refine gate_dst (N := 1) rfl ?_); (try (refine gate_guard qgcr ?_; dsimp only)); refine box_event qgcr (N := 1) qgcr (cs := #[.int .i64 a0_0, .int .i64 a0_1, .bool a0_2, .bool a0_3, .int .i64 a0_4, .int .i64 a0_5, .int .i64 a0_6, .int .u32 a0_7, .int .u32 a0_8, .string a0_9]) (t := 64) qlto ?_; intro gb443 hg w23 hbox hb; have BK443 := Aside0.mk (hbox); have GE443 := Aside0.mk ((qisx : w.heap.size ≤ gb443)); replace HB := Aside0.mk (below_step qpag hb); clear hb hbox hg; obtain ⟨hcz24_0, hcz24_1, hcz24_2, hcz24_3, hcz24_4, hcz24_5, hcz24_6, hcz24_7, hcz24_8, hcz24_9⟩ := cells10 BK443.out; obtain ⟨hfz24_0, hfz24_1, hfz24_2, hfz24_3, hfz24_4, hfz24_5, hfz24_6, hfz24_7, hfz24_8, hfz24_9⟩ := frozen10 BK443.out) | ((with_reducible refine gate_callee (f := 71) rfl ?_); refine goesL_ (some 5) rfl rfl Tryd.func71 qg3m rfl #[.int .i64 a0_0, .int .i64 256] rfl qraq ?_; (with_reducible refine (inet_below.calls a0_0 256 true _ A2.out).mono ?_); rintro e w' ⟨rfl, ⟨nd, rfl⟩⟩; refine ⟨_, rfl, ?_⟩) | (go_at_call 71; (with_reducible refine (inet_below.calls a0_5 256 false _ A4.out).mono ?_); rintro e w' ⟨rfl, ⟨nd, rfl⟩⟩))
   go_ret
   exact ⟨qxu5, qzjl⟩
 ·replace c3 := Bool.eq_false_iff.mpr c3
  subst c3
  rw [if_neg (show ¬ (false = true) by decide)] at H
  obtain rfl := Option.some.inj H
  go_enter Tryd.func46, Tryd.ntmps46
  go_wp2_with (first | ((with_reducible refine gate_st (ty := 64) rfl ?_); refine storeC10 rfl rfl rfl rfl rfl qppt qr2c qg3m rfl ?_) | ((with_reducible refine gate_ld (ty := 64) rfl ?_); (try (with_reducible refine gate_gd rfl ?_; refine gate_guard q8ju ?_; dsimp only)); refine load_st rfl rfl rfl qppt qr2c Tryd.underlying64 rfl qg3m ?_; (try simp only [Act.put, List.setIfInBounds_toArray, List.set_cons_zero, List.set_cons_succ])) | ((with_reducible refine gate_dst (N := 1) rfl ?_); (try (refine gate_guard qgcr ?_; dsimp only)); refine box_event qgcr (N := 1) qgcr (cs := #[.int .i64 a0_0, .int .i64 a0_1, .bool a0_2, .bool a0_3, .int .i64 a0_4, .int .i64 a0_5, .int .i64 a0_6, .int .u32 a0_7, .int .u32 a0_8, .string a0_9]) (t := 64) qlto ?_; intro gb443 hg w25 hbox hb; have BK443 := Aside0.mk (hbox); have GE443 := Aside0.mk ((qisx : w.heap.size ≤ gb443)); replace HB := Aside0.mk (below_step qpag hb); clear hb hbox hg; obtain ⟨hcz26_0, hcz26_1, hcz26_2, hcz26_3, hcz26_4, hcz26_5, hcz26_6, hcz26_7, hcz26_8, hcz26_9⟩ := cells10 BK443.out; obtain ⟨hfz26_0, hfz26_1, hfz26_2, hfz26_3, hfz26_4, hfz26_5, hfz26_6, hfz26_7, hfz26_8, hfz26_9⟩ := frozen10 BK443.out) | ((with_reducible refine gate_callee (f := 71) rfl ?_); refine goesL_ (some 5) rfl rfl Tryd.func71 qg3m rfl #[.int .i64 a0_0, .int .i64 256] rfl qraq ?_; (with_reducible refine (inet_below.calls a0_0 256 false _ A2.out).mono ?_); rintro e w' ⟨rfl, ⟨nd, rfl⟩⟩; refine ⟨_, rfl, ?_⟩))
  go_ret
  exact ⟨qxu5, qzjl⟩
/-! ### inet_word: function 48 -/
def inet_word.f (k : Nat) (a0 : Int) : Option (ByteArray) := (octets_Put.f k (IntKind.u64.wrap (a0)) 2).bind fun bt449 => (some bt449.1)
theorem inet_word.mono : ∀ a0 k, LeO (inet_word.f k a0) (inet_word.f (k + 1) a0) := by
 intro a0 k
 unfold inet_word.f
 repeat' first
   | (with_reducible exact octets_Put.mono _ _ _)
   | (with_reducible exact LeO.refl _)
   | (with_reducible exact LeO.none _)
   | (with_reducible refine LeO.ite ?_ ?_)
   | (with_reducible refine LeO.bind ?_ (fun _ => ?_))
   | exact octets_Put.mono _ _ _
   | exact LeO.none _
   | refine LeO.ite ?_ ?_
   | refine LeO.bind ?_ (fun _ => ?_)
set_option maxHeartbeats 8000000 in
set_option maxRecDepth 100000 in
theorem inet_word.calls (k : Nat) (a0 : Int) (r : ByteArray) (w : World) (h : inet_word.f k a0 = some r) :
  Calls Tryd.prog 48 #[.int .i64 a0] w fun e w' => e = .returned (.string r) ∧ Below w.heap.size w w' := by
 have HB := Aside0.mk (Below.refl w.heap.size w)
 have H : ((octets_Put.f k (IntKind.u64.wrap (a0)) 2).bind fun bt449 => (some bt449.1)) = some r := h
 clear h
 replace H := Option.bind_eq_some_iff.mp H
 obtain ⟨⟨t449, t450⟩, A20, H⟩ := H
 try dsimp only at H
 have A2 := Aside0.mk A20
 clear A20
 obtain rfl := Option.some.inj H
 go_enter Tryd.func48, Tryd.ntmps48
 go_wp2_with (first | ((with_reducible refine gate_callee (f := 47) rfl ?_); refine goesL_ (some 8) rfl rfl Tryd.func47 qg3m rfl #[.int .u64 (IntKind.u64.wrap (a0)), .int .i64 2] rfl qraq ?_; (with_reducible refine (octets_Put.calls k (IntKind.u64.wrap (a0)) 2 t449 t450 _ A2.out).mono ?_); rintro e w3 ⟨rfl, hb⟩; refine ⟨_, rfl, ?_⟩; replace HB := Aside0.mk (below_step qpag hb); (try clear hb); (try clear hb2); (try clear hk); (try clear hi)))
 go_ret
 exact ⟨qxu5, qpag⟩
end Go.Proofs.YtbkgaplldfilnaaDoor.P
namespace Go.Proofs.YtbkgaplldfilnaaDoor.P
open Go.RowKit Go.Proofs.YtbkgaplldfilnaaDoorW.PrintWords Go.Proofs.YtbkgaplldfilnaaDoorW.PrintLast Go.Proofs.YtbkgaplldfilnaaDoorW.PrintMore
attribute [local go_sem] max2_int min2_int max_two min_two max_three min_three max_four min_four   -- for this text's walks alone
set_option linter.unusedVariables false
set_option linter.unusedSimpArgs false

/-! ### gangwayref20_why: function 17 -/
def gangwayref20_why.f (a0 : Int) : Option (Int × Int × Int × Int × Bool × ByteArray × Int × Int × Int × Int × Int) := some (a0, 0, 0, 0, false, (⟨#[]⟩ : ByteArray), 0, 0, 0, 0, 0)
set_option maxHeartbeats 8000000 in
set_option maxRecDepth 100000 in
theorem gangwayref20_why.calls (a0 : Int) (r1 : Int) (r2 : Int) (r3 : Int) (r4 : Int) (r5 : Bool) (r6 : ByteArray) (r7 : Int) (r8 : Int) (r9 : Int) (r10 : Int) (r11 : Int) (w : World) (h : gangwayref20_why.f a0 = some (r1, r2, r3, r4, r5, r6, r7, r8, r9, r10, r11)) :
  Calls Tryd.prog 17 #[.int .i64 a0] w fun e w' => e = .returned (.tuple #[.agg #[.int .i64 r1, .int .u32 r2, .int .i64 r3, .int .i64 r4, .bool r5, .string r6], .agg #[.int .i64 r7, .int .u64 r8, .int .u32 r9, .int .u64 r10, .int .u32 r11]]) ∧ Below w.heap.size w w' := by
 have hu33 := Tryd.underlying33
 have hu35 := Tryd.underlying35
 have HB := Aside0.mk (Below.refl w.heap.size w)
 have H : (some (a0, 0, 0, 0, false, (⟨#[]⟩ : ByteArray), 0, 0, 0, 0, 0)) = some (r1, r2, r3, r4, r5, r6, r7, r8, r9, r10, r11) := h
 clear h
 simp only [Option.some.injEq, Prod.mk.injEq] at H
 obtain ⟨rfl, rfl, rfl, rfl, rfl, rfl, rfl, rfl, rfl, rfl, rfl⟩ := H
 go_enter Tryd.func17, Tryd.ntmps17
 go_wp2_with (first | ((with_reducible refine gate_st (ty := 33) rfl ?_); refine storeC6 rfl rfl rfl rfl rfl ql9r qr2c qg3m rfl ?_) | ((with_reducible refine gate_ld (ty := 33) rfl ?_); (try (with_reducible refine gate_gd rfl ?_; refine gate_guard q8ju ?_; dsimp only)); refine load_st rfl rfl rfl ql9r qr2c Tryd.underlying33 rfl qg3m ?_; (try simp only [Act.put, List.setIfInBounds_toArray, List.set_cons_zero, List.set_cons_succ])) | ((with_reducible refine gate_st (ty := 35) rfl ?_); refine storeC5 rfl rfl rfl rfl rfl ql9r qr2c qg3m rfl ?_) | ((with_reducible refine gate_ld (ty := 35) rfl ?_); (try (with_reducible refine gate_gd rfl ?_; refine gate_guard q8ju ?_; dsimp only)); refine load_st rfl rfl rfl ql9r qr2c Tryd.underlying35 rfl qg3m ?_; (try simp only [Act.put, List.setIfInBounds_toArray, List.set_cons_zero, List.set_cons_succ])) | ((with_reducible refine gate_dst (N := 2) rfl ?_); refine box_event qgcr (N := 2) qgcr (cs := #[.int .i64 0, .int .u32 0, .int .i64 0, .int .i64 0, .bool false, .string (⟨#[]⟩ : ByteArray)]) (t := 33) qlto ?_; intro gb260 hg w2 hbox hb; have BK260 := Aside0.mk (hbox); have GE260 := Aside0.mk ((qisx : w.heap.size ≤ gb260)); replace HB := Aside0.mk (below_step qpag hb); clear hb hbox hg) | ((with_reducible refine gate_dst (N := 3) rfl ?_); refine box_event qgcr (N := 3) qgcr (cs := #[.int .i64 0, .int .u64 0, .int .u32 0, .int .u64 0, .int .u32 0]) (t := 35) qlto ?_; intro gb261 hg w3 hbox hb; have BK261 := Aside0.mk (hbox); have GE261 := Aside0.mk ((by rw [hg]; exact (below_size qeb3) : w.heap.size ≤ gb261)); have NB260_261 := Aside0.mk ((by rw [hg]; exact Nat.ne_of_lt (blk_lt (g := gb260) q0yl) : gb260 ≠ gb261)); have NB261_260 := Aside0.mk ((by rw [hg]; exact Nat.ne_of_gt (blk_lt (g := gb260) q0yl) : gb261 ≠ gb260)); replace BK260 := Aside0.mk (blk_below (g := gb260) q0yl hb); replace HB := Aside0.mk (below_step qeb3 hb); clear hb hbox hg; have hnb4 := NB260_261.out; have hnc4 := NB261_260.out; obtain ⟨hcz5_0, hcz5_1, hcz5_2, hcz5_3, hcz5_4, hcz5_5⟩ := cells6 BK260.out; obtain ⟨hfz5_0, hfz5_1, hfz5_2, hfz5_3, hfz5_4, hfz5_5⟩ := frozen6 BK260.out; obtain ⟨hcz6_0, hcz6_1, hcz6_2, hcz6_3, hcz6_4⟩ := cells5 BK261.out; obtain ⟨hfz6_0, hfz6_1, hfz6_2, hfz6_3, hfz6_4⟩ := frozen5 BK261.out))
 refine bodyPost_ret (results_cc rfl _ _ gb260 gb261 33 35 #[.int .i64 a0, .int .u32 0, .int .i64 0, .int .i64 0, .bool false, .string (⟨#[]⟩ : ByteArray)] #[.int .i64 0, .int .u64 0, .int .u32 0, .int .u64 0, .int .u32 0] (0, 0) (0, 0) _ _ rfl (by (with_reducible repeat (first | refine blk_drewN ?_ _ | refine blk_drew ?_ | refine blk_alloc ?_ _ | refine blk_far ?_ NB260_261.out _)); exact put6_0_6 q0yl) Tryd.underlying33 rfl qg3m rfl (by (with_reducible repeat (first | refine blk_drewN ?_ _ | refine blk_drew ?_ | refine blk_alloc ?_ _)); exact put5_0_5 (by (with_reducible repeat (first | refine blk_drewN ?_ _ | refine blk_drew ?_ | refine blk_alloc ?_ _ | refine blk_far ?_ NB261_260.out _)); exact BK261.out)) Tryd.underlying35 rfl qg3m) rfl ?_
 exact ⟨qxu5, (by repeat (first | (with_reducible first | exact HB.out | apply below_alloc | apply pw_below_drewN | apply below_drew1 | refine below_set ?_ GE260.out | refine below_set ?_ GE261.out) | exact HB.out))⟩
/-! ### gangwayref02_Group: function 36 -/
def gangwayref02_Group.f (a0 : Int) : Option (Bool) := some ((Int.tmod (IntKind.u64.wrap (Int.tdiv a0 1099511627776)) 2) == 1)
theorem z22_0 {p : Prop} (h : p := by
 obtain rfl := Option.some.inj H
 go_enter Tryd.func65, Tryd.ntmps65
 go_wp2_with (first | ((with_reducible refine gate_st (ty := 35) rfl ?_); refine storeC5 rfl rfl rfl rfl rfl qxb4 qr2c qg3m rfl ?_) | ((with_reducible refine gate_ld (ty := 35) rfl ?_); (try (with_reducible refine gate_gd rfl ?_; refine gate_guard q8ju ?_; dsimp only)); refine load_st rfl rfl rfl qxb4 qr2c Tryd.underlying35 rfl qg3m ?_; (try simp only [Act.put, List.setIfInBounds_toArray, List.set_cons_zero, List.set_cons_succ])) | ((with_reducible refine gate_dst (N := 1) rfl ?_); refine box_event qgcr (N := 1) qgcr (cs := #[.int .i64 a0_0, .int .u64 a0_1, .int .u32 a0_2, .int .u64 a0_3, .int .u32 a0_4]) (t := 35) qlto ?_; intro gbz0 hg wz1 hbox hb; have BK263 := Aside0.mk (hbox); have GEz0 := Aside0.mk ((qisx : w.heap.size ≤ gbz0)); replace HB := Aside0.mk (below_step qpag hb); clear hb hbox hg; obtain ⟨hczz2_0, hczz2_1, hczz2_2, hczz2_3, hczz2_4⟩ := cells5 BK263.out; obtain ⟨hfzz2_0, hfzz2_1, hfzz2_2, hfzz2_3, hfzz2_4⟩ := frozen5 BK263.out) | (go_at_call 18; (with_reducible refine (gangwayref02_Own.calls a0_1 true _ A8.out).mono ?_); rintro e w' ⟨rfl, ⟨nd, rfl⟩⟩))
 go_ret
 exact ⟨qxu5, qmef⟩) : p := h
theorem z22_1 {p : Prop} (h : p := by
 obtain rfl := Option.some.inj H
 go_enter Tryd.func65, Tryd.ntmps65
 go_wp2_with (first | ((with_reducible refine gate_st (ty := 35) rfl ?_); refine storeC5 rfl rfl rfl rfl rfl qxb4 qr2c qg3m rfl ?_) | ((with_reducible refine gate_ld (ty := 35) rfl ?_); (try (with_reducible refine gate_gd rfl ?_; refine gate_guard q8ju ?_; dsimp only)); refine load_st rfl rfl rfl qxb4 qr2c Tryd.underlying35 rfl qg3m ?_; (try simp only [Act.put, List.setIfInBounds_toArray, List.set_cons_zero, List.set_cons_succ])) | ((with_reducible refine gate_dst (N := 1) rfl ?_); refine box_event qgcr (N := 1) qgcr (cs := #[.int .i64 a0_0, .int .u64 a0_1, .int .u32 a0_2, .int .u64 a0_3, .int .u32 a0_4]) (t := 35) qlto ?_; intro gbz0 hg wz1 hbox hb; have BK263 := Aside0.mk (hbox); have GEz0 := Aside0.mk ((qisx : w.heap.size ≤ gbz0)); replace HB := Aside0.mk (below_step qpag hb); clear hb hbox hg; obtain ⟨hczz2_0, hczz2_1, hczz2_2, hczz2_3, hczz2_4⟩ := cells5 BK263.out; obtain ⟨hfzz2_0, hfzz2_1, hfzz2_2, hfzz2_3, hfzz2_4⟩ := frozen5 BK263.out))
 go_ret
 exact ⟨qxu5, qmef⟩) : p := h
theorem z22_2 {p : Prop} (h : p := by
 go_wp2
 go_ret
 exact ⟨q8z4, qlmv⟩) : p := h
set_option maxHeartbeats 8000000 in
set_option maxRecDepth 100000 in
theorem gangwayref02_Group.calls (a0 : Int) (r : Bool) (w : World) (h : gangwayref02_Group.f a0 = some r) :
  Calls Tryd.prog 36 #[.int .u64 a0] w fun e w' => e = .returned (.bool r) ∧ Drawn0 w w' := by
 have H : (some ((Int.tmod (IntKind.u64.wrap (Int.tdiv a0 1099511627776)) 2) == 1)) = some r := h
 clear h
 obtain rfl := Option.some.inj H
 go_enter Tryd.func36, Tryd.ntmps36
 exact z22_2
/-! ### gangwayref02_Own: function 18 -/
def gangwayref02_Own.f (a0 : Int) : Option (Bool) := if a0 > 0 then (if a0 < 281474976710656 then ((gangwayref02_Group.f a0).bind fun t262 => (some (!t262))) else (some false)) else (some false)
set_option maxHeartbeats 8000000 in
set_option maxRecDepth 100000 in
theorem gangwayref02_Own.calls (a0 : Int) (r : Bool) (w : World) (h : gangwayref02_Own.f a0 = some r) :
  Calls Tryd.prog 18 #[.int .u64 a0] w fun e w' => e = .returned (.bool r) ∧ Drawn0 w w' := by
 have H : (if a0 > 0 then (if a0 < 281474976710656 then ((gangwayref02_Group.f a0).bind fun t262 => (some (!t262))) else (some false)) else (some false)) = some r := h
 clear h
 by_cases c2 : a0 > 0
 ·rw [if_pos c2] at H
  have c2b0 : decide (0 < a0) = true := decide_eq_true c2
  clear c2
  by_cases c3 : a0 < 281474976710656
  ·rw [if_pos c3] at H
   have c3b0 : decide (a0 < 281474976710656) = true := decide_eq_true c3
   clear c3
   replace H := Option.bind_eq_some_iff.mp H
   obtain ⟨t262, A40, H⟩ := H
   try dsimp only at H
   have A4 := Aside0.mk A40
   clear A40
   obtain rfl := Option.some.inj H
   go_enter Tryd.func18, Tryd.ntmps18
   go_wp2_with (first | (go_at_call 36; (with_reducible refine (gangwayref02_Group.calls a0 t262 _ A4.out).mono ?_); rintro e w' ⟨rfl, ⟨nd, rfl⟩⟩))
   go_ret
   exact ⟨q8z4, qlmv⟩
  ·rw [if_neg c3] at H
   have c3b0 : decide (a0 < 281474976710656) = false := decide_eq_false c3
   clear c3
   obtain rfl := Option.some.inj H
   go_enter Tryd.func18, Tryd.ntmps18
   exact z22_2
 ·rw [if_neg c2] at H
  have c2b0 : decide (0 < a0) = false := decide_eq_false c2
  clear c2
  obtain rfl := Option.some.inj H
  go_enter Tryd.func18, Tryd.ntmps18
  exact z22_2
/-! ### gangwayref01_Num: function 40 -/
def gangwayref01_Num.l0 : Nat → ByteArray → Int → Int → Option (Int)
 | 0, _, _, _ => none
 | k + 1, x0, x3, x4 => if x4 < (x0.size : Int) then (if 0 ≤ x4 then (gangwayref01_Num.l0 k x0 (IntKind.u64.wrap ((IntKind.u64.wrap (x3 * 256)) + (IntKind.u64.wrap (bt x0 x4)))) (wrap64 (x4 + 1))) else (none)) else (some x3)
def gangwayref01_Num.f (k : Nat) (a0 : ByteArray) : Option (Int) := gangwayref01_Num.l0 k a0 0 0
theorem gangwayref01_Num.mono_l : ∀ k, (∀ y0 y1 y2, LeO (gangwayref01_Num.l0 k y0 y1 y2) (gangwayref01_Num.l0 (k + 1) y0 y1 y2))
 | 0 => fun _ _ _ r h => by simp [gangwayref01_Num.l0] at h
 | k + 1 => by
  have ih0 := gangwayref01_Num.mono_l k
  ·intro y0 y1 y2
   unfold gangwayref01_Num.l0
   repeat' first
   | (with_reducible exact ih0 _ _ _)
   | (with_reducible exact LeO.refl _)
   | (with_reducible exact LeO.none _)
   | (with_reducible refine LeO.ite ?_ ?_)
   | (with_reducible refine LeO.bind ?_ (fun _ => ?_))
   | exact ih0 _ _ _
   | exact LeO.none _
   | refine LeO.ite ?_ ?_
   | refine LeO.bind ?_ (fun _ => ?_)
theorem gangwayref01_Num.mono : ∀ a0 k, LeO (gangwayref01_Num.f k a0) (gangwayref01_Num.f (k + 1) a0) := by
 intro a0 k
 have ih0 := gangwayref01_Num.mono_l k
 unfold gangwayref01_Num.f
 repeat' first
   | (with_reducible exact ih0 _ _ _)
   | (with_reducible exact LeO.refl _)
   | (with_reducible exact LeO.none _)
   | (with_reducible refine LeO.ite ?_ ?_)
   | (with_reducible refine LeO.bind ?_ (fun _ => ?_))
   | exact ih0 _ _ _
   | exact LeO.none _
   | refine LeO.ite ?_ ?_
   | refine LeO.bind ?_ (fun _ => ?_)
set_option maxHeartbeats 8000000 in
set_option maxRecDepth 100000 in
theorem gangwayref01_Num.calls (k : Nat) (a0 : ByteArray) (r : Int) (w : World) (h : gangwayref01_Num.f k a0 = some r) :
  Calls Tryd.prog 40 #[.string a0] w fun e w' => e = .returned (.int .u64 r) ∧ Drawn0 w w' := by
 have H : (gangwayref01_Num.l0 k a0 0 0) = some r := h
 clear h
 have H' := Aside0.mk H
 clear H
 go_enter Tryd.func40, Tryd.ntmps40
 go_wp2
 go_loopg [3, 4] k (fun kq v3 v4 w' => ∃ (x3_1 : Int) (x4_1 : Int), v3 = .int .u64 x3_1 ∧ v4 = .int .i64 x4_1 ∧ Aside0 (gangwayref01_Num.l0 kq a0 x3_1 x4_1 = some r) ∧ Aside0 (kq ≤ k) ∧ Drawn0 w w')
 case atStart => exact ⟨(0), (0), q8z4, q8z4, H', ⟨Nat.le_refl _⟩, qlmv⟩
 case round =>
  clear H'
  obtain ⟨x3_1, x4_1, rfl, rfl, HA, HK1, ⟨m1, rfl⟩⟩ := hrel
  cases gk with
  | zero => exact absurd HA.out (by simp [gangwayref01_Num.l0])
  | succ k1 =>
   have H := HA.out
   clear HA
   simp only [gangwayref01_Num.l0] at H
   by_cases c2 : x4_1 < (a0.size : Int)
   ·rw [if_pos c2] at H
    have c2b0 : decide (x4_1 < (a0.size : Int)) = true := decide_eq_true c2
    clear c2
    by_cases c3 : 0 ≤ x4_1
    ·rw [if_pos c3] at H
     have c3b0 : decide (0 ≤ x4_1) = true := decide_eq_true c3
     clear c3
     have H' := Aside0.mk H
     clear H
     have p4 : 0 ≤ (x4_1 : Int) := of_decide_eq_true qlss
     have q4 : x4_1 < (a0.size : Int) := of_decide_eq_true qlss
     have hx4 := bt_at a0 x4_1
     replace p4 := eq_true p4
     replace q4 := eq_true q4
     go_wp2
     go_roundg k1
     case measure => have := HK1.out; omega
     case rel => exact ⟨(IntKind.u64.wrap ((IntKind.u64.wrap (x3_1 * 256)) + (IntKind.u64.wrap (bt a0 x4_1)))), (wrap64 (x4_1 + 1)), q8z4, q8z4, H', ⟨(by have := HK1.out; omega)⟩, qlmv⟩
    ·rw [if_neg c3] at H
     exact absurd H q6hr
   ·rw [if_neg c2] at H
    have c2b0 : decide (x4_1 < (a0.size : Int)) = false := decide_eq_false c2
    clear c2
    obtain rfl := Option.some.inj H
    exact z22_2
/-! ### gangwayref05_Check: function 65 -/
def gangwayref05_Check.f (a0_0 : Int) (a0_1 : Int) (a0_2 : Int) (a0_3 : Int) (a0_4 : Int) : Option (Int) := if a0_0 < 1 then (some 51) else (if a0_0 > 2 then (some 51) else ((gangwayref02_Own.f a0_1).bind fun t264 => (if t264 = true then (if (a0_3 / 281474976710656) = 0 then (some 0) else (some 51)) else (some 51))))
set_option maxHeartbeats 8000000 in
set_option maxRecDepth 100000 in
theorem gangwayref05_Check.calls (a0_0 : Int) (a0_1 : Int) (a0_2 : Int) (a0_3 : Int) (a0_4 : Int) (r : Int) (w : World) (h : gangwayref05_Check.f a0_0 a0_1 a0_2 a0_3 a0_4 = some r) :
  Calls Tryd.prog 65 #[.agg #[.int .i64 a0_0, .int .u64 a0_1, .int .u32 a0_2, .int .u64 a0_3, .int .u32 a0_4]] w fun e w' => e = .returned (.int .i64 r) ∧ Below w.heap.size w w' := by
 have hu35 := Tryd.underlying35
 have HB := Aside0.mk (Below.refl w.heap.size w)
 have H : (if a0_0 < 1 then (some 51) else (if a0_0 > 2 then (some 51) else ((gangwayref02_Own.f a0_1).bind fun t264 => (if t264 = true then (if (a0_3 / 281474976710656) = 0 then (some 0) else (some 51)) else (some 51))))) = some r := h
 clear h
 by_cases c2 : a0_0 < 1
 ·rw [if_pos c2] at H
  have c2b0 : decide (a0_0 < 1) = true := decide_eq_true c2
  clear c2
  exact z22_1
 ·rw [if_neg c2] at H
  have c2b0 : decide (a0_0 < 1) = false := decide_eq_false c2
  clear c2
  by_cases c5 : a0_0 > 2
  ·rw [if_pos c5] at H
   have c5b0 : decide (2 < a0_0) = true := decide_eq_true c5
   clear c5
   exact z22_1
  ·rw [if_neg c5] at H
   have c5b0 : decide (2 < a0_0) = false := decide_eq_false c5
   clear c5
   replace H := Option.bind_eq_some_iff.mp H
   obtain ⟨t264, A80, H⟩ := H
   try dsimp only at H
   have A8 := Aside0.mk A80
   clear A80
   by_cases c9 : t264 = true
   ·subst c9
    rw [if_pos rfl] at H
    by_cases c10 : (a0_3 / 281474976710656) = 0
    ·rw [if_pos c10] at H
     have c10b0 : ((a0_3 / 281474976710656) == 0) = true := beq_iff_eq.mpr c10
     have c10b1 : ((a0_3 / 281474976710656) != 0) = false := bne_eq_false_iff_eq.mpr c10
     clear c10
     exact z22_0
    ·rw [if_neg c10] at H
     have c10b0 : ((a0_3 / 281474976710656) == 0) = false := beq_eq_false_iff_ne.mpr c10
     have c10b1 : ((a0_3 / 281474976710656) != 0) = true := bne_iff_ne.mpr c10
     exact z22_0
   ·replace c9 := Bool.eq_false_iff.mpr c9
    subst c9
    rw [if_neg (show ¬ (false = true) by decide)] at H
    obtain rfl := Option.some.inj H
    go_enter Tryd.func65, Tryd.ntmps65
    go_wp2_with (first | ((with_reducible refine gate_st (ty := 35) rfl ?_); refine storeC5 rfl rfl rfl rfl rfl qxb4 qr2c qg3m rfl ?_) | ((with_reducible refine gate_ld (ty := 35) rfl ?_); (try (with_reducible refine gate_gd rfl ?_; refine gate_guard q8ju ?_; dsimp only)); refine load_st rfl rfl rfl qxb4 qr2c Tryd.underlying35 rfl qg3m ?_; (try simp only [Act.put, List.setIfInBounds_toArray, List.set_cons_zero, List.set_cons_succ])) | ((with_reducible refine gate_dst (N := 1) rfl ?_); refine box_event qgcr (N := 1) qgcr (cs := #[.int .i64 a0_0, .int .u64 a0_1, .int .u32 a0_2, .int .u64 a0_3, .int .u32 a0_4]) (t := 35) qlto ?_; intro gb263 hg w15 hbox hb; have BK263 := Aside0.mk (hbox); have GE263 := Aside0.mk ((qisx : w.heap.size ≤ gb263)); replace HB := Aside0.mk (below_step qpag hb); clear hb hbox hg; obtain ⟨hcz16_0, hcz16_1, hcz16_2, hcz16_3, hcz16_4⟩ := cells5 BK263.out; obtain ⟨hfz16_0, hfz16_1, hfz16_2, hfz16_3, hfz16_4⟩ := frozen5 BK263.out) | (go_at_call 18; (with_reducible refine (gangwayref02_Own.calls a0_1 false _ A8.out).mono ?_); rintro e w' ⟨rfl, ⟨nd, rfl⟩⟩))
    go_ret
    exact ⟨qxu5, (by repeat (first | (with_reducible first | exact HB.out | apply below_alloc | apply pw_below_drewN | apply below_drew1 | refine below_set ?_ GE263.out) | exact HB.out))⟩
end Go.Proofs.YtbkgaplldfilnaaDoor.P
