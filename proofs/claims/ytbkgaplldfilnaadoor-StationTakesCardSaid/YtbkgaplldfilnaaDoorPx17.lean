-- slim
-- Written by wip/hprint.py (this session's program) through the kit's print program; hand contracts are marked 'by hand'.
import Derived.Test.YtbkgaplldfilnaaDoorAbb
import Derived.Test.YtbkgaplldfilnaaDoorPx0
import Derived.Test.YtbkgaplldfilnaaDoorPx32
import Derived.Test.YtbkgaplldfilnaaDoorPx10
namespace Go.Proofs.YtbkgaplldfilnaaDoor.P
open Go.RowKit Go.Proofs.YtbkgaplldfilnaaDoorW.PrintWords Go.Proofs.YtbkgaplldfilnaaDoorW.PrintLast Go.Proofs.YtbkgaplldfilnaaDoorW.PrintMore
attribute [local go_sem] max2_int min2_int max_two min_two max_three min_three max_four min_four   -- for this text's walks alone
set_option linter.unusedVariables false
set_option linter.unusedSimpArgs false

theorem q6q9 {p : Prop} (h : p := by (try simp only [List.map_toArray, List.map_cons, List.map_nil]); first | done | (simp only [hji18]; rfl) | rfl | (simp only [List.length_drop, List.length_take]; rfl)) : p := h
theorem qgv2 {p : Prop} (h : p := by first | rfl | (simp [errW_none, errW_some] <;> rfl) | (simp only [← hji18]; first | rfl | (simp [errW_none, errW_some] <;> rfl)) | (simp [*, errW_none, errW_some] <;> rfl) | (simp [*, IntKind.wrap_u32]; done) | (simp_all [IntKind.wrap_u32]; done)) : p := h
/-! ### udp_wrong: function 77 -/
def udp_wrong.f (k : Nat) (a0 : Int) (a1 : Int) (a2 : ByteArray) : Option (Int × Int) := if (a2.size : Int) < 8 then (some (0, 0)) else ((octets_Get.f k a2 4 2).bind fun bt187 => ((octets_Get.f k a2 6 2).bind fun bt189 => (if (wrap64 (bt187.1)) < 8 then (some (1, 0)) else (if (wrap64 (bt187.1)) > (a2.size : Int) then (some (2, 0)) else (if bt189.1 = 0 then (some (4, wrap64 (bt187.1))) else ((csum_Head.f k a0 a1 17 (wrap64 (bt187.1))).bind fun t191 => (if 0 ≤ (wrap64 (bt187.1)) then (if (wrap64 (bt187.1)) ≤ (a2.size : Int) then ((csum_Right.f k (([t191, a2.extract 0 ((wrap64 (bt187.1)) : Int).toNat] : List ByteArray))).bind fun t195 => (if t195 = true then (some (4, wrap64 (bt187.1))) else (some (3, 0)))) else (none)) else (none))))))))
theorem udp_wrong.mono : ∀ a0 a1 a2 k, LeO (udp_wrong.f k a0 a1 a2) (udp_wrong.f (k + 1) a0 a1 a2) := by
 intro a0 a1 a2 k
 unfold udp_wrong.f
 repeat' first
   | (with_reducible exact csum_Head.mono _ _ _ _ _)
   | (with_reducible exact csum_Right.mono _ _)
   | (with_reducible exact octets_Get.mono _ _ _ _)
   | (with_reducible exact LeO.refl _)
   | (with_reducible exact LeO.none _)
   | (with_reducible refine LeO.ite ?_ ?_)
   | (with_reducible refine LeO.bind ?_ (fun _ => ?_))
   | exact csum_Head.mono _ _ _ _ _
   | exact csum_Right.mono _ _
   | exact octets_Get.mono _ _ _ _
   | exact LeO.none _
   | refine LeO.ite ?_ ?_
   | refine LeO.bind ?_ (fun _ => ?_)
def udp_wrong.T10 : Bool × List (List Nat × List Nat) := (true, [([], []), ([0], [0]), ([1], [1]), ([2], [2]), ([2], [2]), ([2], [2]), ([3, 4, 5, 2, 2], [2, 3, 4, 5]), ([2], [2]), ([2], [2]), ([7, 8, 2], [2, 7, 8]), ([6, 9, 2], [2, 6, 9]), ([10, 6, 2], [2, 10]), ([11, 2], [2, 11]), ([2, 12], [2, 12]), ([13, 11], [13])])
def udp_wrong.B10 : List Nat := [0, 1, 3, 7, 7, 7, 63, 7, 7, 391, 1023, 2047, 4095, 8191, 16383]
theorem udp_wrong.tab10 : rtab .any (opsOf Tryd.f77 10) = udp_wrong.T10 := by kernel_rfl
theorem udp_wrong.bits10 : waitsOk udp_wrong.T10.2 udp_wrong.B10 = true := by kernel_rfl
theorem z17_0 {p : Prop} (h : p := by
 simp only [Option.some.injEq, Prod.mk.injEq] at H
 obtain ⟨rfl, rfl⟩ := H
 go_enter Tryd.func77, Tryd.ntmps77
 go_wp2_with (first | ((with_reducible refine gate_callee (f := 56) rfl ?_); refine goesL_ (some 18) rfl rfl Tryd.func56 qg3m rfl #[.string a2, .int .i64 4, .int .i64 2] rfl qraq ?_; (with_reducible refine (octets_Get.calls k a2 4 2 t187 t188 _ A5.out).mono ?_); rintro e wz0 ⟨rfl, hb⟩; refine ⟨_, rfl, ?_⟩; replace HB := Aside0.mk (below_step qpag hb); (try clear hb); (try clear hb2); (try clear hk); (try clear hi)) | ((with_reducible refine gate_callee (f := 56) rfl ?_); refine goesL_ (some 23) rfl rfl Tryd.func56 qg3m rfl #[.string a2, .int .i64 6, .int .i64 2] rfl qraq ?_; (with_reducible refine (octets_Get.calls k a2 6 2 t189 t190 _ A6.out).mono ?_); rintro e wz1 ⟨rfl, hb⟩; refine ⟨_, rfl, ?_⟩; replace HB := Aside0.mk (below_step qpag hb); (try clear hb); (try clear hb2); (try clear hk); (try clear hi)))
 go_ret2
 exact ⟨qxu5, qpag⟩) : p := h
theorem z17_1 {p : Prop} (h : p := by
 simp only [Act.put, List.setIfInBounds_toArray, List.set_cons_zero, List.set_cons_succ, i64_w, i32_w]
 rfl) : p := h
theorem z17_2 {p : Prop} (h : p := by
 show Act.put _ (some 43) _ = _
 simp only [Act.put, List.setIfInBounds_toArray, List.set_cons_zero, List.set_cons_succ, i64_w, i32_w]
 rfl) : p := h
theorem z17_3 {p : Prop} (h : p := by
 show Act.put _ (some 47) _ = _
 simp only [Act.put, List.setIfInBounds_toArray, List.set_cons_zero, List.set_cons_succ, i64_w, i32_w]
 rfl) : p := h
theorem z17_4 {p : Prop} (h : p := by
 show Act.put _ (some 48) _ = _
 simp only [Act.put, List.setIfInBounds_toArray, List.set_cons_zero, List.set_cons_succ, i64_w, i32_w]
 rfl) : p := h
set_option maxHeartbeats 8000000 in
set_option maxRecDepth 100000 in
theorem udp_wrong.calls (k : Nat) (a0 : Int) (a1 : Int) (a2 : ByteArray) (r1 : Int) (r2 : Int) (w : World) (h : udp_wrong.f k a0 a1 a2 = some (r1, r2)) :
  Calls Tryd.prog 77 #[.int .u32 a0, .int .u32 a1, .string a2] w fun e w' => e = .returned (.tuple #[.int .i64 r1, .int .i64 r2]) ∧ Below w.heap.size w w' := by
 have HB := Aside0.mk (Below.refl w.heap.size w)
 have H := h
 unfold udp_wrong.f at H
 clear h
 by_cases c4 : (a2.size : Int) < 8
 ·rw [if_pos c4] at H
  have c4b0 : decide ((a2.size : Int) < 8) = true := decide_eq_true c4
  have c4b1 : decide (a2.size < 8) = true := decide_eq_true q1jy
  clear c4
  simp only [Option.some.injEq, Prod.mk.injEq] at H
  obtain ⟨rfl, rfl⟩ := H
  go_enter Tryd.func77, Tryd.ntmps77
  go_wp2
  go_ret2
  exact ⟨qxu5, qpag⟩
 ·rw [if_neg c4] at H
  have c4b0 : decide ((a2.size : Int) < 8) = false := decide_eq_false c4
  have c4b1 : decide (a2.size < 8) = false := decide_eq_false q1jy
  clear c4
  replace H := Option.bind_eq_some_iff.mp H
  obtain ⟨⟨t187, t188⟩, A50, H⟩ := H
  try dsimp only at H
  have A5 := Aside0.mk A50
  clear A50
  replace H := Option.bind_eq_some_iff.mp H
  obtain ⟨⟨t189, t190⟩, A60, H⟩ := H
  try dsimp only at H
  have A6 := Aside0.mk A60
  clear A60
  by_cases c7 : (wrap64 (t187)) < 8
  ·rw [if_pos c7] at H
   have c7b0 : decide ((wrap64 (t187)) < 8) = true := decide_eq_true c7
   clear c7
   exact z17_0
  ·rw [if_neg c7] at H
   have c7b0 : decide ((wrap64 (t187)) < 8) = false := decide_eq_false c7
   clear c7
   by_cases c10 : (wrap64 (t187)) > (a2.size : Int)
   ·rw [if_pos c10] at H
    have c10b0 : decide ((a2.size : Int) < (wrap64 (t187))) = true := decide_eq_true c10
    clear c10
    exact z17_0
   ·rw [if_neg c10] at H
    have c10b0 : decide ((a2.size : Int) < (wrap64 (t187))) = false := decide_eq_false c10
    clear c10
    by_cases c13 : t189 = 0
    ·rw [if_pos c13] at H
     have c13b0 : (t189 == 0) = true := beq_iff_eq.mpr c13
     have c13b1 : (t189 != 0) = false := bne_eq_false_iff_eq.mpr c13
     clear c13
     simp only [Option.some.injEq, Prod.mk.injEq] at H
     obtain ⟨rfl, rfl⟩ := H
     go_enter Tryd.func77, Tryd.ntmps77
     try go_wp2_with (first | ((with_reducible refine gate_callee (f := 56) rfl ?_); refine goesL_ (some 18) rfl rfl Tryd.func56 qg3m rfl #[.string a2, .int .i64 4, .int .i64 2] rfl qraq ?_; (with_reducible refine (octets_Get.calls k a2 4 2 t187 t188 _ A5.out).mono ?_); rintro e w14 ⟨rfl, hb⟩; refine ⟨_, rfl, ?_⟩; replace HB := Aside0.mk (below_step qpag hb); (try clear hb); (try clear hb2); (try clear hk); (try clear hi)) | ((with_reducible refine gate_callee (f := 56) rfl ?_); refine goesL_ (some 23) rfl rfl Tryd.func56 qg3m rfl #[.string a2, .int .i64 6, .int .i64 2] rfl qraq ?_; (with_reducible refine (octets_Get.calls k a2 6 2 t189 t190 _ A6.out).mono ?_); rintro e w15 ⟨rfl, hb⟩; refine ⟨_, rfl, ?_⟩; replace HB := Aside0.mk (below_step qpag hb); (try clear hb); (try clear hb2); (try clear hk); (try clear hi)))
     replace HB := Aside0.mk (below_drew1 HB.out)
     refine start_ (n := 15) (S := fun w' => True) (ds := []) (ba 15 0) qg3m rfl rfl trivial (fun hHeld => ?_); refine with_tabW udp_wrong.tab10 udp_wrong.bits10 (fun HT_ HW_ => ?_)
     generalize w15.drew = w16 at HB hHeld ⊢
     refine pu_139 (i := 0) (N := some 37) (ba 15 1) ?_
     refine pu_139 (i := 1) (N := some 38) (ba 15 3) ?_
     refine pu_139 (i := 2) (N := some 39) (ba 15 7) ?_
     refine pure_ (i := 3) (N := some 40) (v := undef) (a' := ?_) (ba 15 15) rfl rfl (any_of HT_.out qg3m) (fun _ _ _ h => h) (Or.inr ⟨quos, rfl⟩) ?_ ?_
     rotate_left
     ·exact z17_1
     refine pure_ (i := 4) (N := some 41) (v := undef) (a' := ?_) (ba 15 31) rfl rfl (any_of HT_.out qg3m) (fun _ _ _ h => h) (Or.inr ⟨quos, rfl⟩) ?_ ?_
     rotate_left
     ·exact z17_1
     refine pure_ (i := 5) (N := some 42) (v := undef) (a' := ?_) (ba 15 63) rfl rfl (any_of HT_.out qg3m) (fun _ _ _ h => h) (Or.inr ⟨quos, rfl⟩) ?_ ?_
     rotate_left
     ·exact z17_1
     refine pure_ (i := 6) (N := some 43) (v := undef) (a' := ?_) (ba 15 127) rfl rfl (any_of HT_.out qg3m) (fun _ _ _ h => h) (Or.inr ⟨quos, rfl⟩) ?_ ?_
     rotate_left
     ·exact z17_1
     refine pure_ (i := 7) (N := some 44) (v := undef) (a' := ?_) (ba 15 255) rfl rfl (any_of HT_.out qg3m) (fun _ _ _ h => h) (Or.inr ⟨quos, rfl⟩) ?_ ?_
     rotate_left
     ·exact z17_1
     refine pure_ (i := 8) (N := some 45) (v := undef) (a' := ?_) (ba 15 511) rfl rfl (any_of HT_.out qg3m) (fun _ _ _ h => h) (Or.inr ⟨quos, rfl⟩) ?_ ?_
     rotate_left
     ·exact z17_1
     refine pure_ (i := 9) (N := some 46) (v := undef) (a' := ?_) (ba 15 1023) rfl rfl (any_of HT_.out qg3m) (fun _ _ _ h => h) (Or.inr ⟨quos, rfl⟩) ?_ ?_
     rotate_left
     ·exact z17_1
     refine pure_ (i := 10) (N := some 47) (v := undef) (a' := ?_) (ba 15 2047) rfl rfl (any_of HT_.out qg3m) (fun _ _ _ h => h) (Or.inr ⟨quos, rfl⟩) ?_ ?_
     rotate_left
     ·exact z17_1
     refine pure_ (i := 11) (N := some 48) (v := undef) (a' := ?_) (ba 15 4095) rfl rfl (any_of HT_.out qg3m) (fun _ _ _ h => h) (Or.inr ⟨quos, rfl⟩) ?_ ?_
     rotate_left
     ·exact z17_1
     refine pure_ (i := 12) (N := some 49) (v := undef) (a' := ?_) (ba 15 8191) rfl rfl (any_of HT_.out qg3m) (fun _ _ _ h => h) (Or.inr ⟨quos, rfl⟩) ?_ ?_
     rotate_left
     ·exact z17_1
     refine pu_139 (i := 13) (N := some 50) (ba 15 16383) ?_
     refine pu_139 (i := 14) (N := some 36) (ba 15 32767) ?_
     refine done_ (done_of HT_.out qg3m) ?_
     try go_wp2
     go_ret2
     exact ⟨qxu5, qpag⟩
    ·rw [if_neg c13] at H
     have c13b0 : (t189 == 0) = false := beq_eq_false_iff_ne.mpr c13
     have c13b1 : (t189 != 0) = true := bne_iff_ne.mpr c13
     replace H := Option.bind_eq_some_iff.mp H
     obtain ⟨t191, A170, H⟩ := H
     try dsimp only at H
     have A17 := Aside0.mk A170
     clear A170
     obtain ⟨ji18, hji18⟩ : ∃ j_ : Int, (wrap64 (t187)) = j_ := ⟨_, rfl⟩
     replace H : (if 0 ≤ (ji18) then (if (ji18) ≤ (a2.size : Int) then ((csum_Right.f k (([t191, a2.extract 0 ((ji18) : Int).toNat] : List ByteArray))).bind fun t195 => (if t195 = true then (some (4, ji18)) else (some (3, 0)))) else (none)) else (none)) = some (r1, r2) := by first | (rw [hji18] at H; exact H) | (simp only [hji18] at H ⊢; exact H)
     (try rw [hji18] at c7b0)
     (try rw [hji18] at c10b0)
     (try rw [hji18] at A5)
     (try rw [hji18] at A6)
     (try rw [hji18] at A17)
     have hji18w : (IntKind.i64.wrap (t187)) = ji18 := (i64_w _).trans hji18
     by_cases c19 : 0 ≤ (ji18)
     ·rw [if_pos c19] at H
      have c19b0 := eq_true c19
      have c19b1 : decide (0 ≤ (ji18)) = true := decide_eq_true c19
      clear c19
      by_cases c20 : (ji18) ≤ (a2.size : Int)
      ·rw [if_pos c20] at H
       have c20b0 := eq_true c20
       have c20b1 : decide ((ji18) ≤ (a2.size : Int)) = true := decide_eq_true c20
       clear c20
       obtain ⟨y192, hy192⟩ : ∃ y_ : List ByteArray, y_ = (([t191, a2.extract 0 ((ji18) : Int).toNat] : List ByteArray)) := ⟨_, rfl⟩
       replace H : ((csum_Right.f k y192).bind fun t195 => (if t195 = true then (some (4, ji18)) else (some (3, 0)))) = some (r1, r2) := by first | (rw [hy192]; with_reducible exact H) | (have H2_ := (Option.bind_some _ _).symm.trans H; rw [hy192]; with_reducible exact H2_) | (have H2_ := (Option.bind_some _ _).symm.trans H; with_reducible exact H2_) | with_reducible exact H | (rw [hy192]; exact H) | exact H
       have Ny192 := Aside0.mk hy192
       clear hy192
       replace H := Option.bind_eq_some_iff.mp H
       obtain ⟨t195, A210, H⟩ := H
       try dsimp only at H
       have A21 := Aside0.mk A210
       clear A210
       by_cases c22 : t195 = true
       ·subst c22
        rw [if_pos rfl] at H
        simp only [Option.some.injEq, Prod.mk.injEq] at H
        obtain ⟨rfl, rfl⟩ := H
        go_enter Tryd.func77, Tryd.ntmps77
        try go_wp2_with (first | ((with_reducible refine gate_callee (f := 56) rfl ?_); refine goesL_ (some 18) rfl rfl Tryd.func56 qg3m rfl #[.string a2, .int .i64 4, .int .i64 2] rfl qraq ?_; (with_reducible refine (octets_Get.calls k a2 4 2 t187 t188 _ A5.out).mono ?_); rintro e w23 ⟨rfl, hb⟩; refine ⟨_, rfl, ?_⟩; replace HB := Aside0.mk (below_step qpag hb); (try clear hb); (try clear hb2); (try clear hk); (try clear hi)) | ((with_reducible refine gate_callee (f := 56) rfl ?_); refine goesL_ (some 23) rfl rfl Tryd.func56 qg3m rfl #[.string a2, .int .i64 6, .int .i64 2] rfl qraq ?_; (with_reducible refine (octets_Get.calls k a2 6 2 t189 t190 _ A6.out).mono ?_); rintro e w24 ⟨rfl, hb⟩; refine ⟨_, rfl, ?_⟩; replace HB := Aside0.mk (below_step qpag hb); (try clear hb); (try clear hb2); (try clear hk); (try clear hi)))
        replace HB := Aside0.mk (below_drew1 HB.out)
        refine start_ (n := 15) (S := fun w' => True) (ds := []) (ba 15 0) qg3m rfl rfl trivial (fun hHeld => ?_); refine with_tabW udp_wrong.tab10 udp_wrong.bits10 (fun HT_ HW_ => ?_)
        generalize w24.drew = w25 at HB hHeld ⊢
        refine pu_139 (i := 0) (N := some 37) (ba 15 1) ?_
        refine pu_139 (i := 1) (N := some 38) (ba 15 3) ?_
        refine pu_139 (i := 2) (N := some 39) (ba 15 7) ?_
        refine pu_139 (i := 3) (N := some 40) (ba 15 15) ?_
        refine pu_139 (i := 4) (N := some 41) (ba 15 31) ?_
        refine pu_139 (i := 5) (N := some 42) (ba 15 63) ?_
        refine pu_139 (i := 7) (N := some 44) (ba 15 191) ?_
        refine pu_139 (i := 8) (N := some 45) (ba 15 447) ?_
        refine pu_139 (i := 9) (N := some 46) (ba 15 959) ?_
        refine one_ (i := 6) (N := some 43) (ba 15 1023) rfl rfl (one_of HT_.out qg3m) qomw (fun K hK => ?_)
        refine goes_ Tryd.func45 qg3m rfl #[.int .u32 a0, .int .u32 a1, .int .i64 17, .int .i64 ji18] qlo1 rfl rfl q6q9 ?_
        with_reducible refine (csum_Head.calls k a0 a1 17 ji18 t191 _ A17.out).mono ?_
        rintro e w26 ⟨rfl, hb⟩
        refine ⟨_, rfl, ?_⟩
        replace HB := Aside0.mk (below_step qpag hb)
        (try clear hb)
        (try clear hb2)
        (try clear hk)
        (try clear hi)
        refine hK.out _ _ trivial (fun hHeld => ?_)
        clear hK K
        refine norm_ (a' := ?_) ?_ ?_
        rotate_left
        ·exact z17_2
        refine one_ (i := 10) (N := some 47) (ba 15 2047) rfl rfl (one_of HT_.out qg3m) qomw (fun K hK => ?_)
        refine Kd.R_lit_step Kd.string _ 9 ?hg (N := 47) ?hd (xs := ([t191, a2.extract 0 ((ji18) : Int).toNat] : List ByteArray)) (inner := [.string t191, .string (a2.extract 0 ((ji18) : Int).toNat)]) (ok := fun _ => True) (okp := fun _ => True) ?hr ?hp (fun _ hk => hk) trivial (Below.refl _ _) (Nat.le_refl _) q6hr ?_; (case hd => rfl); (case hg => rfl); (case hr => first | (go_simp; done) | (go_simp; rfl)); (case hp => exact (Reps.one (show Kd.M Kd.string _ _ _ t191 [.string t191] from rfl) (Reps.one (show Kd.M Kd.string _ _ _ (a2.extract 0 ((ji18) : Int).toNat) [.string (a2.extract 0 ((ji18) : Int).toNat)] from rfl) (Reps.none _ _))))
        intro v193 w27 ho28 hb hg_ hnew_
        clear hg_ hnew_
        (first | rw [← Ny192.out] at ho28 | (simp only [Int.reduceToNat] at ho28; rw [← Ny192.out] at ho28))
        have HO194 := Aside0.mk (Kd.R_lower ho28 (below_size qpag))
        replace HB := Aside0.mk (below_step qpag hb)
        clear hb ho28
        obtain ⟨Ao29, co29, eo29⟩ := Kd.R_slice HO194.out
        (first | subst eo29 | (injection eo29 with f1_ f2_ f3_; have f4_ := f1_.symm; have f5_ := f3_.symm; clear f1_ f2_ f3_; subst f4_; subst f5_))
        refine hK.out _ _ trivial (fun hHeld => ?_)
        clear hK K
        refine norm_ (a' := ?_) ?_ ?_
        rotate_left
        ·exact z17_3
        refine one_ (i := 11) (N := some 48) (ba 15 4095) rfl rfl (one_of HT_.out qg3m) qomw (fun K hK => ?_)
        refine goes_ Tryd.func80 qg3m rfl #[.slice Ao29 y192.length co29] qlo1 rfl rfl qraq ?_
        with_reducible refine (csum_Right.calls k _ _ y192 true _ ?side1 ?side2 A21.out).mono ?_
        (case side1 => repeat (first | exact (Kd.R_reads' HO194.out).2.2 | (with_reducible refine Kd.C_alloc ?_ _) | (with_reducible refine Kd.C_drewN ?_ _) | (with_reducible refine Kd.C_drew ?_)))
        (case side2 => exact (Kd.R_reads' HO194.out).2.1)
        rintro e w30 ⟨rfl, hb⟩
        refine ⟨_, rfl, ?_⟩
        replace HO194 := Aside0.mk (Kd.R_below (by (with_reducible repeat (first | apply Kd.R_alloc | apply Kd.R_drewN | apply Kd.R_drew)); exact HO194.out) hb)
        replace HB := Aside0.mk (below_step qpag hb)
        (try clear hb)
        (try clear hb2)
        (try clear hk)
        (try clear hi)
        refine hK.out _ _ trivial (fun hHeld => ?_)
        clear hK K
        refine norm_ (a' := ?_) ?_ ?_
        rotate_left
        ·exact z17_4
        refine pu_139 (i := 12) (N := some 49) (ba 15 8191) ?_
        refine pu_139 (i := 13) (N := some 50) (ba 15 16383) ?_
        refine pu_139 (i := 14) (N := some 36) (ba 15 32767) ?_
        refine done_ (done_of HT_.out qg3m) ?_
        try go_wp2
        go_ret2
        exact ⟨qgv2, qpag⟩
       ·replace c22 := Bool.eq_false_iff.mpr c22
        subst c22
        rw [if_neg (show ¬ (false = true) by decide)] at H
        simp only [Option.some.injEq, Prod.mk.injEq] at H
        obtain ⟨rfl, rfl⟩ := H
        go_enter Tryd.func77, Tryd.ntmps77
        try go_wp2_with (first | ((with_reducible refine gate_callee (f := 56) rfl ?_); refine goesL_ (some 18) rfl rfl Tryd.func56 qg3m rfl #[.string a2, .int .i64 4, .int .i64 2] rfl qraq ?_; (with_reducible refine (octets_Get.calls k a2 4 2 t187 t188 _ A5.out).mono ?_); rintro e w31 ⟨rfl, hb⟩; refine ⟨_, rfl, ?_⟩; replace HB := Aside0.mk (below_step qpag hb); (try clear hb); (try clear hb2); (try clear hk); (try clear hi)) | ((with_reducible refine gate_callee (f := 56) rfl ?_); refine goesL_ (some 23) rfl rfl Tryd.func56 qg3m rfl #[.string a2, .int .i64 6, .int .i64 2] rfl qraq ?_; (with_reducible refine (octets_Get.calls k a2 6 2 t189 t190 _ A6.out).mono ?_); rintro e w32 ⟨rfl, hb⟩; refine ⟨_, rfl, ?_⟩; replace HB := Aside0.mk (below_step qpag hb); (try clear hb); (try clear hb2); (try clear hk); (try clear hi)))
        replace HB := Aside0.mk (below_drew1 HB.out)
        refine start_ (n := 15) (S := fun w' => True) (ds := []) (ba 15 0) qg3m rfl rfl trivial (fun hHeld => ?_); refine with_tabW udp_wrong.tab10 udp_wrong.bits10 (fun HT_ HW_ => ?_)
        generalize w32.drew = w33 at HB hHeld ⊢
        refine pu_139 (i := 0) (N := some 37) (ba 15 1) ?_
        refine pu_139 (i := 1) (N := some 38) (ba 15 3) ?_
        refine pu_139 (i := 2) (N := some 39) (ba 15 7) ?_
        refine pu_139 (i := 3) (N := some 40) (ba 15 15) ?_
        refine pu_139 (i := 4) (N := some 41) (ba 15 31) ?_
        refine pu_139 (i := 5) (N := some 42) (ba 15 63) ?_
        refine pu_139 (i := 7) (N := some 44) (ba 15 191) ?_
        refine pu_139 (i := 8) (N := some 45) (ba 15 447) ?_
        refine pu_139 (i := 9) (N := some 46) (ba 15 959) ?_
        refine one_ (i := 6) (N := some 43) (ba 15 1023) rfl rfl (one_of HT_.out qg3m) qomw (fun K hK => ?_)
        refine goes_ Tryd.func45 qg3m rfl #[.int .u32 a0, .int .u32 a1, .int .i64 17, .int .i64 ji18] qlo1 rfl rfl q6q9 ?_
        with_reducible refine (csum_Head.calls k a0 a1 17 ji18 t191 _ A17.out).mono ?_
        rintro e w34 ⟨rfl, hb⟩
        refine ⟨_, rfl, ?_⟩
        replace HB := Aside0.mk (below_step qpag hb)
        (try clear hb)
        (try clear hb2)
        (try clear hk)
        (try clear hi)
        refine hK.out _ _ trivial (fun hHeld => ?_)
        clear hK K
        refine norm_ (a' := ?_) ?_ ?_
        rotate_left
        ·exact z17_2
        refine one_ (i := 10) (N := some 47) (ba 15 2047) rfl rfl (one_of HT_.out qg3m) qomw (fun K hK => ?_)
        refine Kd.R_lit_step Kd.string _ 9 ?hg (N := 47) ?hd (xs := ([t191, a2.extract 0 ((ji18) : Int).toNat] : List ByteArray)) (inner := [.string t191, .string (a2.extract 0 ((ji18) : Int).toNat)]) (ok := fun _ => True) (okp := fun _ => True) ?hr ?hp (fun _ hk => hk) trivial (Below.refl _ _) (Nat.le_refl _) q6hr ?_; (case hd => rfl); (case hg => rfl); (case hr => first | (go_simp; done) | (go_simp; rfl)); (case hp => exact (Reps.one (show Kd.M Kd.string _ _ _ t191 [.string t191] from rfl) (Reps.one (show Kd.M Kd.string _ _ _ (a2.extract 0 ((ji18) : Int).toNat) [.string (a2.extract 0 ((ji18) : Int).toNat)] from rfl) (Reps.none _ _))))
        intro v193 w35 ho36 hb hg_ hnew_
        clear hg_ hnew_
        (first | rw [← Ny192.out] at ho36 | (simp only [Int.reduceToNat] at ho36; rw [← Ny192.out] at ho36))
        have HO194 := Aside0.mk (Kd.R_lower ho36 (below_size qpag))
        replace HB := Aside0.mk (below_step qpag hb)
        clear hb ho36
        obtain ⟨Ao37, co37, eo37⟩ := Kd.R_slice HO194.out
        (first | subst eo37 | (injection eo37 with f1_ f2_ f3_; have f4_ := f1_.symm; have f5_ := f3_.symm; clear f1_ f2_ f3_; subst f4_; subst f5_))
        refine hK.out _ _ trivial (fun hHeld => ?_)
        clear hK K
        refine norm_ (a' := ?_) ?_ ?_
        rotate_left
        ·exact z17_3
        refine one_ (i := 11) (N := some 48) (ba 15 4095) rfl rfl (one_of HT_.out qg3m) qomw (fun K hK => ?_)
        refine goes_ Tryd.func80 qg3m rfl #[.slice Ao37 y192.length co37] qlo1 rfl rfl qraq ?_
        with_reducible refine (csum_Right.calls k _ _ y192 false _ ?side1 ?side2 A21.out).mono ?_
        (case side1 => repeat (first | exact (Kd.R_reads' HO194.out).2.2 | (with_reducible refine Kd.C_alloc ?_ _) | (with_reducible refine Kd.C_drewN ?_ _) | (with_reducible refine Kd.C_drew ?_)))
        (case side2 => exact (Kd.R_reads' HO194.out).2.1)
        rintro e w38 ⟨rfl, hb⟩
        refine ⟨_, rfl, ?_⟩
        replace HO194 := Aside0.mk (Kd.R_below (by (with_reducible repeat (first | apply Kd.R_alloc | apply Kd.R_drewN | apply Kd.R_drew)); exact HO194.out) hb)
        replace HB := Aside0.mk (below_step qpag hb)
        (try clear hb)
        (try clear hb2)
        (try clear hk)
        (try clear hi)
        refine hK.out _ _ trivial (fun hHeld => ?_)
        clear hK K
        refine norm_ (a' := ?_) ?_ ?_
        rotate_left
        ·exact z17_4
        refine pu_139 (i := 12) (N := some 49) (ba 15 8191) ?_
        refine pu_139 (i := 13) (N := some 50) (ba 15 16383) ?_
        refine pu_139 (i := 14) (N := some 36) (ba 15 32767) ?_
        refine done_ (done_of HT_.out qg3m) ?_
        try go_wp2
        go_ret2
        exact ⟨qgv2, qpag⟩
      ·rw [if_neg c20] at H
       exact absurd H q6hr
     ·rw [if_neg c19] at H
      exact absurd H q6hr
end Go.Proofs.YtbkgaplldfilnaaDoor.P
