-- Written by wip/hprint.py (this session's program) through the kit's print program; hand contracts are marked 'by hand'.
import Derived.Test.YtgfgebngmjchbaaPx0
import Derived.Test.YtgfgebngmjchbaaPx4
import Derived.Test.YtgfgebngmjchbaaPx6
import Derived.Test.YtgfgebngmjchbaaPx8
import Derived.Test.YtgfgebngmjchbaaPx9
namespace Go.Proofs.Ytgfgebngmjchbaa.P
open Go.RowKit Go.Proofs.YtgfgebngmjchbaaW.PrintWords Go.Proofs.YtgfgebngmjchbaaW.PrintLast Go.Proofs.YtgfgebngmjchbaaW.PrintMore
attribute [local go_sem] max2_int min2_int max_two min_two max_three min_three max_four min_four   -- for this text's walks alone
set_option linter.unusedVariables false
set_option linter.unusedSimpArgs false

/-! ### gangwaylaw03_CsumPatch: function 4 -/
def gangwaylaw03_CsumPatch.f (k : Nat) (a0 : Int) (a1 : Int) (a2 : Int) : Option (Bool) := (gangwaylaw03_fixed.f k).bind fun t174 => (if t174 = true then ((csum_Patch.f k a0 a1 a2).bind fun t175 => ((gangwayref03_Patch.f a0 a1 a2).bind fun t176 => (if t175 = t176 then ((csum_Head.f k ((a0) % 4294967296) ((a1) % 4294967296) a2 a1).bind fun t177 => ((gangwayref03_Head.f k ((a0) % 4294967296) ((a1) % 4294967296) a2 a1).bind fun t178 => (some (t177.toList == t178.toList)))) else (some false)))) else (some false))
theorem gangwaylaw03_CsumPatch.mono : ∀ a0 a1 a2 k, LeO (gangwaylaw03_CsumPatch.f k a0 a1 a2) (gangwaylaw03_CsumPatch.f (k + 1) a0 a1 a2) := by
  intro a0 a1 a2 k
  unfold gangwaylaw03_CsumPatch.f
  repeat' first
      | (with_reducible exact csum_Head.mono _ _ _ _ _)
      | (with_reducible exact csum_Patch.mono _ _ _ _)
      | (with_reducible exact gangwaylaw03_fixed.mono _)
      | (with_reducible exact gangwayref03_Head.mono _ _ _ _ _)
      | (with_reducible exact LeO.refl _)
      | (with_reducible exact LeO.none _)
      | (with_reducible refine LeO.ite ?_ ?_)
      | (with_reducible refine LeO.bind ?_ (fun _ => ?_))
      | exact csum_Head.mono _ _ _ _ _
      | exact csum_Patch.mono _ _ _ _
      | exact gangwaylaw03_fixed.mono _
      | exact gangwayref03_Head.mono _ _ _ _ _
      | exact LeO.none _
      | refine LeO.ite ?_ ?_
      | refine LeO.bind ?_ (fun _ => ?_)
set_option maxHeartbeats 8000000 in
set_option maxRecDepth 100000 in
theorem gangwaylaw03_CsumPatch.calls (k : Nat) (a0 : Int) (a1 : Int) (a2 : Int) (r : Bool) (w : World) (h : gangwaylaw03_CsumPatch.f k a0 a1 a2 = some r) :
    Calls Try.prog 4 #[.int .i64 a0, .int .i64 a1, .int .i64 a2] w fun e w' => e = .returned (.bool r) ∧ Below w.heap.size w w' := by
  have HB := Aside0.mk (Below.refl w.heap.size w)
  have H : ((gangwaylaw03_fixed.f k).bind fun t174 => (if t174 = true then ((csum_Patch.f k a0 a1 a2).bind fun t175 => ((gangwayref03_Patch.f a0 a1 a2).bind fun t176 => (if t175 = t176 then ((csum_Head.f k ((a0) % 4294967296) ((a1) % 4294967296) a2 a1).bind fun t177 => ((gangwayref03_Head.f k ((a0) % 4294967296) ((a1) % 4294967296) a2 a1).bind fun t178 => (some (t177.toList == t178.toList)))) else (some false)))) else (some false))) = some r := h
  clear h
  replace H := Option.bind_eq_some_iff.mp H
  obtain ⟨t174, A40, H⟩ := H
  replace H : (if t174 = true then ((csum_Patch.f k a0 a1 a2).bind fun t175 => ((gangwayref03_Patch.f a0 a1 a2).bind fun t176 => (if t175 = t176 then ((csum_Head.f k ((a0) % 4294967296) ((a1) % 4294967296) a2 a1).bind fun t177 => ((gangwayref03_Head.f k ((a0) % 4294967296) ((a1) % 4294967296) a2 a1).bind fun t178 => (some (t177.toList == t178.toList)))) else (some false)))) else (some false)) = some r := H
  have A4 := Aside0.mk A40
  clear A40
  by_cases c5 : t174 = true
  · subst c5
    have H1 : ((csum_Patch.f k a0 a1 a2).bind fun t175 => ((gangwayref03_Patch.f a0 a1 a2).bind fun t176 => (if t175 = t176 then ((csum_Head.f k ((a0) % 4294967296) ((a1) % 4294967296) a2 a1).bind fun t177 => ((gangwayref03_Head.f k ((a0) % 4294967296) ((a1) % 4294967296) a2 a1).bind fun t178 => (some (t177.toList == t178.toList)))) else (some false)))) = some r := by rw [if_pos rfl] at H; exact H
    clear H
    have H := H1
    clear H1
    replace H := Option.bind_eq_some_iff.mp H
    obtain ⟨t175, A60, H⟩ := H
    replace H : ((gangwayref03_Patch.f a0 a1 a2).bind fun t176 => (if t175 = t176 then ((csum_Head.f k ((a0) % 4294967296) ((a1) % 4294967296) a2 a1).bind fun t177 => ((gangwayref03_Head.f k ((a0) % 4294967296) ((a1) % 4294967296) a2 a1).bind fun t178 => (some (t177.toList == t178.toList)))) else (some false))) = some r := H
    have A6 := Aside0.mk A60
    clear A60
    replace H := Option.bind_eq_some_iff.mp H
    obtain ⟨t176, A70, H⟩ := H
    replace H : (if t175 = t176 then ((csum_Head.f k ((a0) % 4294967296) ((a1) % 4294967296) a2 a1).bind fun t177 => ((gangwayref03_Head.f k ((a0) % 4294967296) ((a1) % 4294967296) a2 a1).bind fun t178 => (some (t177.toList == t178.toList)))) else (some false)) = some r := H
    have A7 := Aside0.mk A70
    clear A70
    by_cases c8 : t175 = t176
    · rw [if_pos c8] at H
      have c8b0 : (t175 == t176) = true := beq_iff_eq.mpr c8
      have c8b1 : (t175 != t176) = false := bne_eq_false_iff_eq.mpr c8
      clear c8
      replace H := Option.bind_eq_some_iff.mp H
      obtain ⟨t177, A90, H⟩ := H
      replace H : ((gangwayref03_Head.f k ((a0) % 4294967296) ((a1) % 4294967296) a2 a1).bind fun t178 => (some (t177.toList == t178.toList))) = some r := H
      have A9 := Aside0.mk A90
      clear A90
      replace H := Option.bind_eq_some_iff.mp H
      obtain ⟨t178, A100, H⟩ := H
      replace H : (some (t177.toList == t178.toList)) = some r := H
      have A10 := Aside0.mk A100
      clear A100
      obtain rfl := Option.some.inj H
      go_enter Try.func4, Try.ntmps4
      go_wp2_with (first | ((with_reducible refine gate_callee (f := 11) rfl ?_); refine goesL_ (some 7) rfl rfl Try.func11 (by kernel_rfl) rfl #[] rfl (by (try simp only [List.map_toArray, List.map_cons, List.map_nil]); first | done | rfl | (simp only [List.length_drop, List.length_take]; rfl)) ?_; (with_reducible refine (gangwaylaw03_fixed.calls k  true _ A4.out).mono ?_); rintro e w11 ⟨rfl, hb⟩; refine ⟨_, rfl, ?_⟩; have n0_ := Aside0.mk (below_step (by repeat (first | (with_reducible first | exact HB.out | apply below_alloc | apply pw_below_drewN | apply below_drew1) | exact HB.out)) hb); clear HB; have HB := n0_; clear n0_; (try clear hb); (try clear hb2); (try clear hk); (try clear hi)) | (go_at_call 15; (with_reducible refine (csum_Patch.calls k a0 a1 a2 t175 _ A6.out).mono ?_); rintro e w' ⟨rfl, ⟨nd, rfl⟩⟩) | (go_at_call 16; (with_reducible refine (gangwayref03_Patch.calls a0 a1 a2 t176 _ A7.out).mono ?_); rintro e w' ⟨rfl, ⟨nd, rfl⟩⟩) | (go_at_call 17; (with_reducible refine (csum_Head.calls k ((a0) % 4294967296) ((a1) % 4294967296) a2 a1 t177 _ A9.out).mono ?_); rintro e w12 ⟨rfl, hb⟩; have n0_ := Aside0.mk (below_step (by repeat (first | (with_reducible first | exact HB.out | apply below_alloc | apply pw_below_drewN | apply below_drew1) | exact HB.out)) hb); clear HB; have HB := n0_; clear n0_; (try clear hb); (try clear hb2); (try clear hk); (try clear hi)) | (go_at_call 18; (with_reducible refine (gangwayref03_Head.calls k ((a0) % 4294967296) ((a1) % 4294967296) a2 a1 t178 _ A10.out).mono ?_); rintro e w13 ⟨rfl, hb⟩; have n0_ := Aside0.mk (below_step (by repeat (first | (with_reducible first | exact HB.out | apply below_alloc | apply pw_below_drewN | apply below_drew1) | exact HB.out)) hb); clear HB; have HB := n0_; clear n0_; (try clear hb); (try clear hb2); (try clear hk); (try clear hi)))
      go_ret
      exact ⟨by first | rfl | (simp [errW_none, errW_some] <;> rfl) | (simp [*, errW_none, errW_some] <;> rfl), by repeat (first | (with_reducible first | exact HB.out | apply below_alloc | apply pw_below_drewN | apply below_drew1) | exact HB.out)⟩
    · rw [if_neg c8] at H
      have c8b0 : (t175 == t176) = false := beq_eq_false_iff_ne.mpr c8
      have c8b1 : (t175 != t176) = true := bne_iff_ne.mpr c8
      obtain rfl := Option.some.inj H
      go_enter Try.func4, Try.ntmps4
      go_wp2_with (first | ((with_reducible refine gate_callee (f := 11) rfl ?_); refine goesL_ (some 7) rfl rfl Try.func11 (by kernel_rfl) rfl #[] rfl (by (try simp only [List.map_toArray, List.map_cons, List.map_nil]); first | done | rfl | (simp only [List.length_drop, List.length_take]; rfl)) ?_; (with_reducible refine (gangwaylaw03_fixed.calls k  true _ A4.out).mono ?_); rintro e w14 ⟨rfl, hb⟩; refine ⟨_, rfl, ?_⟩; have n0_ := Aside0.mk (below_step (by repeat (first | (with_reducible first | exact HB.out | apply below_alloc | apply pw_below_drewN | apply below_drew1) | exact HB.out)) hb); clear HB; have HB := n0_; clear n0_; (try clear hb); (try clear hb2); (try clear hk); (try clear hi)) | (go_at_call 15; (with_reducible refine (csum_Patch.calls k a0 a1 a2 t175 _ A6.out).mono ?_); rintro e w' ⟨rfl, ⟨nd, rfl⟩⟩) | (go_at_call 16; (with_reducible refine (gangwayref03_Patch.calls a0 a1 a2 t176 _ A7.out).mono ?_); rintro e w' ⟨rfl, ⟨nd, rfl⟩⟩))
      go_ret
      exact ⟨by first | rfl | (simp [errW_none, errW_some] <;> rfl) | (simp [*, errW_none, errW_some] <;> rfl), by repeat (first | (with_reducible first | exact HB.out | apply below_alloc | apply pw_below_drewN | apply below_drew1) | exact HB.out)⟩
  · replace c5 := Bool.eq_false_iff.mpr c5
    subst c5
    have H1 : (some false) = some r := by rw [if_neg (show ¬ (false = true) by decide)] at H; exact H
    clear H
    have H := H1
    clear H1
    obtain rfl := Option.some.inj H
    go_enter Try.func4, Try.ntmps4
    go_wp2_with (first | ((with_reducible refine gate_callee (f := 11) rfl ?_); refine goesL_ (some 7) rfl rfl Try.func11 (by kernel_rfl) rfl #[] rfl (by (try simp only [List.map_toArray, List.map_cons, List.map_nil]); first | done | rfl | (simp only [List.length_drop, List.length_take]; rfl)) ?_; (with_reducible refine (gangwaylaw03_fixed.calls k  false _ A4.out).mono ?_); rintro e w15 ⟨rfl, hb⟩; refine ⟨_, rfl, ?_⟩; have n0_ := Aside0.mk (below_step (by repeat (first | (with_reducible first | exact HB.out | apply below_alloc | apply pw_below_drewN | apply below_drew1) | exact HB.out)) hb); clear HB; have HB := n0_; clear n0_; (try clear hb); (try clear hb2); (try clear hk); (try clear hi)))
    go_ret
    exact ⟨by first | rfl | (simp [errW_none, errW_some] <;> rfl) | (simp [*, errW_none, errW_some] <;> rfl), by repeat (first | (with_reducible first | exact HB.out | apply below_alloc | apply pw_below_drewN | apply below_drew1) | exact HB.out)⟩

/-- THE ONE PURE STATEMENT of gangwaylaw03_CsumPatch: yours. -/
def gangwaylaw03_CsumPatch.Pure : Prop := ∀ (a0 : Int) (a1 : Int) (a2 : Int), (Lit.int .i64 a0).wf = true → (Lit.int .i64 a1).wf = true → (Lit.int .i64 a2).wf = true → ∃ k, gangwaylaw03_CsumPatch.f k a0 a1 a2 = some true
theorem gangwaylaw03_CsumPatch.walk (P : gangwaylaw03_CsumPatch.Pure) (a0 : Int) (a1 : Int) (a2 : Int) (w : World) (w0 : (Lit.int .i64 a0).wf = true) (w1 : (Lit.int .i64 a1).wf = true) (w2 : (Lit.int .i64 a2).wf = true) :
    Calls Try.prog 4 #[.int .i64 a0, .int .i64 a1, .int .i64 a2] w fun e w' => e = .returned (.bool true) ∧ Below w.heap.size w w' := by
  obtain ⟨k, h⟩ := P a0 a1 a2 w0 w1 w2
  refine (gangwaylaw03_CsumPatch.calls k a0 a1 a2 true w h).mono ?_
  rintro e w' ⟨rfl, hd⟩
  exact ⟨rfl, hd⟩

end Go.Proofs.Ytgfgebngmjchbaa.P
