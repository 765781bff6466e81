-- squeezed
-- Written by wip/hprint.py (this session's program) through the kit's print program; hand contracts are marked 'by hand'.
import Derived.Test.YtigagipeaheclaaDoorPx0
import Derived.Test.YtigagipeaheclaaDoorPx10
namespace Go.Proofs.YtigagipeaheclaaDoor.P
open Go.RowKit Go.Proofs.YtigagipeaheclaaDoorW.PrintWords Go.Proofs.YtigagipeaheclaaDoorW.PrintLast Go.Proofs.YtigagipeaheclaaDoorW.PrintMore
attribute [local go_sem] max2_int min2_int max_two min_two max_three min_three max_four min_four   -- for this text's walks alone
set_option linter.unusedVariables false
set_option linter.unusedSimpArgs false

/-! ### gangwayref03_low: function 43 -/
def gangwayref03_low.f (a0 : Int) : Option (Int) := some (Int.tmod (wrap64 ((Int.tmod a0 65536) + 65536)) 65536)
set_option maxHeartbeats 8000000 in
set_option maxRecDepth 100000 in
theorem gangwayref03_low.calls (a0 : Int) (r : Int) (w : World) (h : gangwayref03_low.f a0 = some r) :
  Calls Tryd.prog 43 #[.int .i64 a0] w fun e w' => e = .returned (.int .i64 r) ∧ Drawn0 w w' := by
 have H : (some (Int.tmod (wrap64 ((Int.tmod a0 65536) + 65536)) 65536)) = some r := h
 clear h
 obtain rfl := Option.some.inj H
 go_enter Tryd.func43, Tryd.ntmps43
 go_wp2
 go_ret
 exact ⟨by first | rfl | (simp; done) | (simp [*]; done), by repeat (first | exact Drawn0.refl _ | apply Drawn0.step)⟩

/-! ### gangwayref03_Patch: function 33 -/
def gangwayref03_Patch.f (a0 : Int) (a1 : Int) (a2 : Int) : Option (Int) := (gangwayref03_low.f a0).bind fun t320 => ((gangwayref03_low.f a1).bind fun t321 => ((gangwayref03_low.f a2).bind fun t322 => ((gangwayref03_Fold.f (wrap64 ((wrap64 ((wrap64 ((wrap64 (65535 - t320)) + 65535)) - t321)) + t322))).bind fun t323 => (some (wrap64 (65535 - t323))))))
set_option maxHeartbeats 8000000 in
set_option maxRecDepth 100000 in
theorem gangwayref03_Patch.calls (a0 : Int) (a1 : Int) (a2 : Int) (r : Int) (w : World) (h : gangwayref03_Patch.f a0 a1 a2 = some r) :
  Calls Tryd.prog 33 #[.int .i64 a0, .int .i64 a1, .int .i64 a2] w fun e w' => e = .returned (.int .i64 r) ∧ Drawn0 w w' := by
 have H : ((gangwayref03_low.f a0).bind fun t320 => ((gangwayref03_low.f a1).bind fun t321 => ((gangwayref03_low.f a2).bind fun t322 => ((gangwayref03_Fold.f (wrap64 ((wrap64 ((wrap64 ((wrap64 (65535 - t320)) + 65535)) - t321)) + t322))).bind fun t323 => (some (wrap64 (65535 - t323))))))) = some r := h
 clear h
 replace H := Option.bind_eq_some_iff.mp H
 obtain ⟨t320, A40, H⟩ := H
 replace H : ((gangwayref03_low.f a1).bind fun t321 => ((gangwayref03_low.f a2).bind fun t322 => ((gangwayref03_Fold.f (wrap64 ((wrap64 ((wrap64 ((wrap64 (65535 - t320)) + 65535)) - t321)) + t322))).bind fun t323 => (some (wrap64 (65535 - t323)))))) = some r := H
 have A4 := Aside0.mk A40
 clear A40
 replace H := Option.bind_eq_some_iff.mp H
 obtain ⟨t321, A50, H⟩ := H
 replace H : ((gangwayref03_low.f a2).bind fun t322 => ((gangwayref03_Fold.f (wrap64 ((wrap64 ((wrap64 ((wrap64 (65535 - t320)) + 65535)) - t321)) + t322))).bind fun t323 => (some (wrap64 (65535 - t323))))) = some r := H
 have A5 := Aside0.mk A50
 clear A50
 replace H := Option.bind_eq_some_iff.mp H
 obtain ⟨t322, A60, H⟩ := H
 replace H : ((gangwayref03_Fold.f (wrap64 ((wrap64 ((wrap64 ((wrap64 (65535 - t320)) + 65535)) - t321)) + t322))).bind fun t323 => (some (wrap64 (65535 - t323)))) = some r := H
 have A6 := Aside0.mk A60
 clear A60
 replace H := Option.bind_eq_some_iff.mp H
 obtain ⟨t323, A70, H⟩ := H
 replace H : (some (wrap64 (65535 - t323))) = some r := H
 have A7 := Aside0.mk A70
 clear A70
 obtain rfl := Option.some.inj H
 go_enter Tryd.func33, Tryd.ntmps33
 go_wp2_with (first | ((with_reducible refine gate_callee (f := 43) rfl ?_); refine goesL_ (some 8) rfl rfl Tryd.func43 (by kernel_rfl) rfl #[.int .i64 a0] rfl (by (try simp only [List.map_toArray, List.map_cons, List.map_nil]); first | done | rfl | (simp only [List.length_drop, List.length_take]; rfl)) ?_; (with_reducible refine (gangwayref03_low.calls a0 t320 _ A4.out).mono ?_); rintro e w' ⟨rfl, ⟨nd, rfl⟩⟩; refine ⟨_, rfl, ?_⟩) | ((with_reducible refine gate_callee (f := 43) rfl ?_); refine goesL_ (some 12) rfl rfl Tryd.func43 (by kernel_rfl) rfl #[.int .i64 a1] rfl (by (try simp only [List.map_toArray, List.map_cons, List.map_nil]); first | done | rfl | (simp only [List.length_drop, List.length_take]; rfl)) ?_; (with_reducible refine (gangwayref03_low.calls a1 t321 _ A5.out).mono ?_); rintro e w' ⟨rfl, ⟨nd, rfl⟩⟩; refine ⟨_, rfl, ?_⟩) | ((with_reducible refine gate_callee (f := 43) rfl ?_); refine goesL_ (some 15) rfl rfl Tryd.func43 (by kernel_rfl) rfl #[.int .i64 a2] rfl (by (try simp only [List.map_toArray, List.map_cons, List.map_nil]); first | done | rfl | (simp only [List.length_drop, List.length_take]; rfl)) ?_; (with_reducible refine (gangwayref03_low.calls a2 t322 _ A6.out).mono ?_); rintro e w' ⟨rfl, ⟨nd, rfl⟩⟩; refine ⟨_, rfl, ?_⟩) | ((with_reducible refine gate_callee (f := 36) rfl ?_); refine goesL_ (some 17) rfl rfl Tryd.func36 (by kernel_rfl) rfl #[.int .i64 (wrap64 ((wrap64 ((wrap64 ((wrap64 (65535 - t320)) + 65535)) - t321)) + t322))] rfl (by (try simp only [List.map_toArray, List.map_cons, List.map_nil]); first | done | rfl | (simp only [List.length_drop, List.length_take]; rfl)) ?_; (with_reducible refine (gangwayref03_Fold.calls (wrap64 ((wrap64 ((wrap64 ((wrap64 (65535 - t320)) + 65535)) - t321)) + t322)) t323 _ A7.out).mono ?_); rintro e w' ⟨rfl, ⟨nd, rfl⟩⟩; refine ⟨_, rfl, ?_⟩))
 go_ret
 exact ⟨by first | rfl | (simp; done) | (simp [*]; done), by repeat (first | exact Drawn0.refl _ | apply Drawn0.step)⟩

end Go.Proofs.YtigagipeaheclaaDoor.P
