-- Written by wip/hprint.py (this session's program) through the kit's print program; hand contracts are marked 'by hand'.
import Derived.Test.YtclffgkefbdcpaaDoorPx0
import Derived.Test.YtclffgkefbdcpaaDoorPx1
import Derived.Test.YtclffgkefbdcpaaDoorPx3
import Derived.Test.YtclffgkefbdcpaaDoorPx4
import Derived.Test.YtclffgkefbdcpaaDoorPx5
import Derived.Test.YtclffgkefbdcpaaDoorPx7
namespace Go.Proofs.YtclffgkefbdcpaaDoor.P
open Go.RowKit Go.Proofs.YtclffgkefbdcpaaDoorW.PrintWords Go.Proofs.YtclffgkefbdcpaaDoorW.PrintLast Go.Proofs.YtclffgkefbdcpaaDoorW.PrintMore
attribute [local go_sem] max2_int min2_int max_two min_two max_three min_three max_four min_four   -- for this text's walks alone
set_option linter.unusedVariables false
set_option linter.unusedSimpArgs false

/-! ### gangwaylaw01_fixed: function 11 -/
def gangwaylaw01_fixed.f (k : Nat)  : Option (Bool) := (octets_Put.f k 4660 4).bind fun bt116 => ((octets_Get.f k bt116.1 2 2).bind fun bt118 => ((octets_Put.f k 256 1).bind fun bt120 => ((octets_Get.f k bt116.1 3 2).bind fun bt122 => ((octets_Unhex.f (⟨#[48, 48, 48, 48, 49, 50, 51, 52]⟩ : ByteArray)).bind fun bt124 => ((octets_Unhex.f (⟨#[48, 65]⟩ : ByteArray)).bind fun bt126 => ((octets_Cut.f (⟨#[97, 98, 99]⟩ : ByteArray) 1 2).bind fun bt128 => (if bt116.1.toList = ([0, 0, 18, 52] : List UInt8) then (if bt116.2 = 0 then (if bt118.1 = 4660 then (if bt118.2 = 0 then (if bt120.2 = 1 then (if bt122.2 = 10 then ((octets_Hex.f bt116.1).bind fun t130 => (if t130.toList = ([48, 48, 48, 48, 49, 50, 51, 52] : List UInt8) then (if bt124.1.toList = bt116.1.toList then (if bt124.2 = 0 then (if bt126.2 = 11 then (if bt128.1.toList = ([98, 99] : List UInt8) then (some (bt128.2 == 0)) else (none)) else (none)) else (none)) else (none)) else (none))) else (none)) else (none)) else (none)) else (none)) else (none)) else (none))))))))
theorem gangwaylaw01_fixed.mono : ∀ k, LeO (gangwaylaw01_fixed.f k ) (gangwaylaw01_fixed.f (k + 1) ) := by
  intro  k
  unfold gangwaylaw01_fixed.f
  repeat' first
      | (with_reducible exact octets_Get.mono _ _ _ _)
      | (with_reducible exact octets_Put.mono _ _ _)
      | (with_reducible exact LeO.refl _)
      | (with_reducible exact LeO.none _)
      | (with_reducible refine LeO.ite ?_ ?_)
      | (with_reducible refine LeO.bind ?_ (fun _ => ?_))
      | exact octets_Get.mono _ _ _ _
      | exact octets_Put.mono _ _ _
      | exact LeO.none _
      | refine LeO.ite ?_ ?_
      | refine LeO.bind ?_ (fun _ => ?_)
set_option maxHeartbeats 8000000 in
set_option maxRecDepth 100000 in
theorem gangwaylaw01_fixed.calls (k : Nat)  (r : Bool) (w : World) (hL : Laid w) (h : gangwaylaw01_fixed.f k  = some r) :
    Calls Tryd.prog 11 #[] w fun e w' => e = .returned (.bool r) ∧ Below w.heap.size w w' := by
  have HLD := Aside0.mk hL
  clear hL
  have HB := Aside0.mk (Below.refl w.heap.size w)
  have H : ((octets_Put.f k 4660 4).bind fun bt116 => ((octets_Get.f k bt116.1 2 2).bind fun bt118 => ((octets_Put.f k 256 1).bind fun bt120 => ((octets_Get.f k bt116.1 3 2).bind fun bt122 => ((octets_Unhex.f (⟨#[48, 48, 48, 48, 49, 50, 51, 52]⟩ : ByteArray)).bind fun bt124 => ((octets_Unhex.f (⟨#[48, 65]⟩ : ByteArray)).bind fun bt126 => ((octets_Cut.f (⟨#[97, 98, 99]⟩ : ByteArray) 1 2).bind fun bt128 => (if bt116.1.toList = ([0, 0, 18, 52] : List UInt8) then (if bt116.2 = 0 then (if bt118.1 = 4660 then (if bt118.2 = 0 then (if bt120.2 = 1 then (if bt122.2 = 10 then ((octets_Hex.f bt116.1).bind fun t130 => (if t130.toList = ([48, 48, 48, 48, 49, 50, 51, 52] : List UInt8) then (if bt124.1.toList = bt116.1.toList then (if bt124.2 = 0 then (if bt126.2 = 11 then (if bt128.1.toList = ([98, 99] : List UInt8) then (some (bt128.2 == 0)) else (none)) else (none)) else (none)) else (none)) else (none))) else (none)) else (none)) else (none)) else (none)) else (none)) else (none))))))))) = some r := h
  clear h
  replace H := Option.bind_eq_some_iff.mp H
  obtain ⟨⟨t116, t117⟩, A10, H⟩ := H
  replace H : ((octets_Get.f k t116 2 2).bind fun bt118 => ((octets_Put.f k 256 1).bind fun bt120 => ((octets_Get.f k t116 3 2).bind fun bt122 => ((octets_Unhex.f (⟨#[48, 48, 48, 48, 49, 50, 51, 52]⟩ : ByteArray)).bind fun bt124 => ((octets_Unhex.f (⟨#[48, 65]⟩ : ByteArray)).bind fun bt126 => ((octets_Cut.f (⟨#[97, 98, 99]⟩ : ByteArray) 1 2).bind fun bt128 => (if t116.toList = ([0, 0, 18, 52] : List UInt8) then (if t117 = 0 then (if bt118.1 = 4660 then (if bt118.2 = 0 then (if bt120.2 = 1 then (if bt122.2 = 10 then ((octets_Hex.f t116).bind fun t130 => (if t130.toList = ([48, 48, 48, 48, 49, 50, 51, 52] : List UInt8) then (if bt124.1.toList = t116.toList then (if bt124.2 = 0 then (if bt126.2 = 11 then (if bt128.1.toList = ([98, 99] : List UInt8) then (some (bt128.2 == 0)) else (none)) else (none)) else (none)) else (none)) else (none))) else (none)) else (none)) else (none)) else (none)) else (none)) else (none)))))))) = some r := H
  have A1 := Aside0.mk A10
  clear A10
  replace H := Option.bind_eq_some_iff.mp H
  obtain ⟨⟨t118, t119⟩, A20, H⟩ := H
  replace H : ((octets_Put.f k 256 1).bind fun bt120 => ((octets_Get.f k t116 3 2).bind fun bt122 => ((octets_Unhex.f (⟨#[48, 48, 48, 48, 49, 50, 51, 52]⟩ : ByteArray)).bind fun bt124 => ((octets_Unhex.f (⟨#[48, 65]⟩ : ByteArray)).bind fun bt126 => ((octets_Cut.f (⟨#[97, 98, 99]⟩ : ByteArray) 1 2).bind fun bt128 => (if t116.toList = ([0, 0, 18, 52] : List UInt8) then (if t117 = 0 then (if t118 = 4660 then (if t119 = 0 then (if bt120.2 = 1 then (if bt122.2 = 10 then ((octets_Hex.f t116).bind fun t130 => (if t130.toList = ([48, 48, 48, 48, 49, 50, 51, 52] : List UInt8) then (if bt124.1.toList = t116.toList then (if bt124.2 = 0 then (if bt126.2 = 11 then (if bt128.1.toList = ([98, 99] : List UInt8) then (some (bt128.2 == 0)) else (none)) else (none)) else (none)) else (none)) else (none))) else (none)) else (none)) else (none)) else (none)) else (none)) else (none))))))) = some r := H
  have A2 := Aside0.mk A20
  clear A20
  replace H := Option.bind_eq_some_iff.mp H
  obtain ⟨⟨t120, t121⟩, A30, H⟩ := H
  replace H : ((octets_Get.f k t116 3 2).bind fun bt122 => ((octets_Unhex.f (⟨#[48, 48, 48, 48, 49, 50, 51, 52]⟩ : ByteArray)).bind fun bt124 => ((octets_Unhex.f (⟨#[48, 65]⟩ : ByteArray)).bind fun bt126 => ((octets_Cut.f (⟨#[97, 98, 99]⟩ : ByteArray) 1 2).bind fun bt128 => (if t116.toList = ([0, 0, 18, 52] : List UInt8) then (if t117 = 0 then (if t118 = 4660 then (if t119 = 0 then (if t121 = 1 then (if bt122.2 = 10 then ((octets_Hex.f t116).bind fun t130 => (if t130.toList = ([48, 48, 48, 48, 49, 50, 51, 52] : List UInt8) then (if bt124.1.toList = t116.toList then (if bt124.2 = 0 then (if bt126.2 = 11 then (if bt128.1.toList = ([98, 99] : List UInt8) then (some (bt128.2 == 0)) else (none)) else (none)) else (none)) else (none)) else (none))) else (none)) else (none)) else (none)) else (none)) else (none)) else (none)))))) = some r := H
  have A3 := Aside0.mk A30
  clear A30
  replace H := Option.bind_eq_some_iff.mp H
  obtain ⟨⟨t122, t123⟩, A40, H⟩ := H
  replace H : ((octets_Unhex.f (⟨#[48, 48, 48, 48, 49, 50, 51, 52]⟩ : ByteArray)).bind fun bt124 => ((octets_Unhex.f (⟨#[48, 65]⟩ : ByteArray)).bind fun bt126 => ((octets_Cut.f (⟨#[97, 98, 99]⟩ : ByteArray) 1 2).bind fun bt128 => (if t116.toList = ([0, 0, 18, 52] : List UInt8) then (if t117 = 0 then (if t118 = 4660 then (if t119 = 0 then (if t121 = 1 then (if t123 = 10 then ((octets_Hex.f t116).bind fun t130 => (if t130.toList = ([48, 48, 48, 48, 49, 50, 51, 52] : List UInt8) then (if bt124.1.toList = t116.toList then (if bt124.2 = 0 then (if bt126.2 = 11 then (if bt128.1.toList = ([98, 99] : List UInt8) then (some (bt128.2 == 0)) else (none)) else (none)) else (none)) else (none)) else (none))) else (none)) else (none)) else (none)) else (none)) else (none)) else (none))))) = some r := H
  have A4 := Aside0.mk A40
  clear A40
  replace H := Option.bind_eq_some_iff.mp H
  obtain ⟨⟨t124, t125⟩, A50, H⟩ := H
  replace H : ((octets_Unhex.f (⟨#[48, 65]⟩ : ByteArray)).bind fun bt126 => ((octets_Cut.f (⟨#[97, 98, 99]⟩ : ByteArray) 1 2).bind fun bt128 => (if t116.toList = ([0, 0, 18, 52] : List UInt8) then (if t117 = 0 then (if t118 = 4660 then (if t119 = 0 then (if t121 = 1 then (if t123 = 10 then ((octets_Hex.f t116).bind fun t130 => (if t130.toList = ([48, 48, 48, 48, 49, 50, 51, 52] : List UInt8) then (if t124.toList = t116.toList then (if t125 = 0 then (if bt126.2 = 11 then (if bt128.1.toList = ([98, 99] : List UInt8) then (some (bt128.2 == 0)) else (none)) else (none)) else (none)) else (none)) else (none))) else (none)) else (none)) else (none)) else (none)) else (none)) else (none)))) = some r := H
  have A5 := Aside0.mk A50
  clear A50
  replace H := Option.bind_eq_some_iff.mp H
  obtain ⟨⟨t126, t127⟩, A60, H⟩ := H
  replace H : ((octets_Cut.f (⟨#[97, 98, 99]⟩ : ByteArray) 1 2).bind fun bt128 => (if t116.toList = ([0, 0, 18, 52] : List UInt8) then (if t117 = 0 then (if t118 = 4660 then (if t119 = 0 then (if t121 = 1 then (if t123 = 10 then ((octets_Hex.f t116).bind fun t130 => (if t130.toList = ([48, 48, 48, 48, 49, 50, 51, 52] : List UInt8) then (if t124.toList = t116.toList then (if t125 = 0 then (if t127 = 11 then (if bt128.1.toList = ([98, 99] : List UInt8) then (some (bt128.2 == 0)) else (none)) else (none)) else (none)) else (none)) else (none))) else (none)) else (none)) else (none)) else (none)) else (none)) else (none))) = some r := H
  have A6 := Aside0.mk A60
  clear A60
  replace H := Option.bind_eq_some_iff.mp H
  obtain ⟨⟨t128, t129⟩, A70, H⟩ := H
  replace H : (if t116.toList = ([0, 0, 18, 52] : List UInt8) then (if t117 = 0 then (if t118 = 4660 then (if t119 = 0 then (if t121 = 1 then (if t123 = 10 then ((octets_Hex.f t116).bind fun t130 => (if t130.toList = ([48, 48, 48, 48, 49, 50, 51, 52] : List UInt8) then (if t124.toList = t116.toList then (if t125 = 0 then (if t127 = 11 then (if t128.toList = ([98, 99] : List UInt8) then (some (t129 == 0)) else (none)) else (none)) else (none)) else (none)) else (none))) else (none)) else (none)) else (none)) else (none)) else (none)) else (none)) = some r := H
  have A7 := Aside0.mk A70
  clear A70
  by_cases c8 : t116.toList = ([0, 0, 18, 52] : List UInt8)
  · rw [if_pos c8] at H
    have c8b0 : (t116.toList == ([0, 0, 18, 52] : List UInt8)) = true := beq_iff_eq.mpr c8
    have c8b1 : (t116.toList != ([0, 0, 18, 52] : List UInt8)) = false := bne_eq_false_iff_eq.mpr c8
    clear c8
    by_cases c9 : t117 = 0
    · rw [if_pos c9] at H
      have c9b0 : (t117 == 0) = true := beq_iff_eq.mpr c9
      have c9b1 : (t117 != 0) = false := bne_eq_false_iff_eq.mpr c9
      clear c9
      by_cases c10 : t118 = 4660
      · rw [if_pos c10] at H
        have c10b0 : (t118 == 4660) = true := beq_iff_eq.mpr c10
        have c10b1 : (t118 != 4660) = false := bne_eq_false_iff_eq.mpr c10
        clear c10
        by_cases c11 : t119 = 0
        · rw [if_pos c11] at H
          have c11b0 : (t119 == 0) = true := beq_iff_eq.mpr c11
          have c11b1 : (t119 != 0) = false := bne_eq_false_iff_eq.mpr c11
          clear c11
          by_cases c12 : t121 = 1
          · rw [if_pos c12] at H
            have c12b0 : (t121 == 1) = true := beq_iff_eq.mpr c12
            have c12b1 : (t121 != 1) = false := bne_eq_false_iff_eq.mpr c12
            clear c12
            by_cases c13 : t123 = 10
            · rw [if_pos c13] at H
              have c13b0 : (t123 == 10) = true := beq_iff_eq.mpr c13
              have c13b1 : (t123 != 10) = false := bne_eq_false_iff_eq.mpr c13
              clear c13
              replace H := Option.bind_eq_some_iff.mp H
              obtain ⟨t130, A140, H⟩ := H
              replace H : (if t130.toList = ([48, 48, 48, 48, 49, 50, 51, 52] : List UInt8) then (if t124.toList = t116.toList then (if t125 = 0 then (if t127 = 11 then (if t128.toList = ([98, 99] : List UInt8) then (some (t129 == 0)) else (none)) else (none)) else (none)) else (none)) else (none)) = some r := H
              have A14 := Aside0.mk A140
              clear A140
              by_cases c15 : t130.toList = ([48, 48, 48, 48, 49, 50, 51, 52] : List UInt8)
              · rw [if_pos c15] at H
                have c15b0 : (t130.toList == ([48, 48, 48, 48, 49, 50, 51, 52] : List UInt8)) = true := beq_iff_eq.mpr c15
                have c15b1 : (t130.toList != ([48, 48, 48, 48, 49, 50, 51, 52] : List UInt8)) = false := bne_eq_false_iff_eq.mpr c15
                clear c15
                by_cases c16 : t124.toList = t116.toList
                · rw [if_pos c16] at H
                  have c16b0 : (t124.toList == t116.toList) = true := beq_iff_eq.mpr c16
                  have c16b1 : (t124.toList != t116.toList) = false := bne_eq_false_iff_eq.mpr c16
                  clear c16
                  by_cases c17 : t125 = 0
                  · rw [if_pos c17] at H
                    have c17b0 : (t125 == 0) = true := beq_iff_eq.mpr c17
                    have c17b1 : (t125 != 0) = false := bne_eq_false_iff_eq.mpr c17
                    clear c17
                    by_cases c18 : t127 = 11
                    · rw [if_pos c18] at H
                      have c18b0 : (t127 == 11) = true := beq_iff_eq.mpr c18
                      have c18b1 : (t127 != 11) = false := bne_eq_false_iff_eq.mpr c18
                      clear c18
                      by_cases c19 : t128.toList = ([98, 99] : List UInt8)
                      · rw [if_pos c19] at H
                        have c19b0 : (t128.toList == ([98, 99] : List UInt8)) = true := beq_iff_eq.mpr c19
                        have c19b1 : (t128.toList != ([98, 99] : List UInt8)) = false := bne_eq_false_iff_eq.mpr c19
                        clear c19
                        obtain rfl := Option.some.inj H
                        go_enter Tryd.func11, Tryd.ntmps11
                        go_wp2_with (first | ((with_reducible refine gate_callee (f := 9) rfl ?_); refine goesL_ (some 16) rfl rfl Tryd.func9 (by kernel_rfl) rfl #[.int .u64 4660, .int .i64 4] rfl (by (try simp only [List.map_toArray, List.map_cons, List.map_nil]); first | done | rfl | (simp only [List.length_drop, List.length_take]; rfl)) ?_; (with_reducible refine (octets_Put.calls k 4660 4 t116 t117 _ A1.out).mono ?_); rintro e w20 ⟨rfl, hb⟩; refine ⟨_, rfl, ?_⟩; have n0_ := Aside0.mk (below_step (by repeat (first | (with_reducible first | exact HB.out | apply below_alloc | apply pw_below_drewN | apply below_drew1) | exact HB.out)) hb); clear HB; have HB := n0_; clear n0_; (try clear hb); (try clear hb2); (try clear hk); (try clear hi)) | ((with_reducible refine gate_callee (f := 16) rfl ?_); refine goesL_ (some 21) rfl rfl Tryd.func16 (by kernel_rfl) rfl #[.string t116, .int .i64 2, .int .i64 2] rfl (by (try simp only [List.map_toArray, List.map_cons, List.map_nil]); first | done | rfl | (simp only [List.length_drop, List.length_take]; rfl)) ?_; (with_reducible refine (octets_Get.calls k t116 2 2 t118 t119 _ ?sideL A2.out).mono ?_); (case sideL => exact laid_below HLD.out (by repeat (first | (with_reducible first | exact HB.out | apply below_alloc | apply pw_below_drewN | apply below_drew1) | exact HB.out))); rintro e w21 ⟨rfl, hb⟩; refine ⟨_, rfl, ?_⟩; have n0_ := Aside0.mk (below_step (by repeat (first | (with_reducible first | exact HB.out | apply below_alloc | apply pw_below_drewN | apply below_drew1) | exact HB.out)) hb); clear HB; have HB := n0_; clear n0_; (try clear hb); (try clear hb2); (try clear hk); (try clear hi)) | ((with_reducible refine gate_callee (f := 9) rfl ?_); refine goesL_ (some 25) rfl rfl Tryd.func9 (by kernel_rfl) rfl #[.int .u64 256, .int .i64 1] rfl (by (try simp only [List.map_toArray, List.map_cons, List.map_nil]); first | done | rfl | (simp only [List.length_drop, List.length_take]; rfl)) ?_; (with_reducible refine (octets_Put.calls k 256 1 t120 t121 _ A3.out).mono ?_); rintro e w22 ⟨rfl, hb⟩; refine ⟨_, rfl, ?_⟩; have n0_ := Aside0.mk (below_step (by repeat (first | (with_reducible first | exact HB.out | apply below_alloc | apply pw_below_drewN | apply below_drew1) | exact HB.out)) hb); clear HB; have HB := n0_; clear n0_; (try clear hb); (try clear hb2); (try clear hk); (try clear hi)) | ((with_reducible refine gate_callee (f := 16) rfl ?_); refine goesL_ (some 30) rfl rfl Tryd.func16 (by kernel_rfl) rfl #[.string t116, .int .i64 3, .int .i64 2] rfl (by (try simp only [List.map_toArray, List.map_cons, List.map_nil]); first | done | rfl | (simp only [List.length_drop, List.length_take]; rfl)) ?_; (with_reducible refine (octets_Get.calls k t116 3 2 t122 t123 _ ?sideL A4.out).mono ?_); (case sideL => exact laid_below HLD.out (by repeat (first | (with_reducible first | exact HB.out | apply below_alloc | apply pw_below_drewN | apply below_drew1) | exact HB.out))); rintro e w23 ⟨rfl, hb⟩; refine ⟨_, rfl, ?_⟩; have n0_ := Aside0.mk (below_step (by repeat (first | (with_reducible first | exact HB.out | apply below_alloc | apply pw_below_drewN | apply below_drew1) | exact HB.out)) hb); clear HB; have HB := n0_; clear n0_; (try clear hb); (try clear hb2); (try clear hk); (try clear hi)) | ((with_reducible refine gate_callee (f := 12) rfl ?_); refine goesL_ (some 34) rfl rfl Tryd.func12 (by kernel_rfl) rfl #[.string (⟨#[48, 48, 48, 48, 49, 50, 51, 52]⟩ : ByteArray)] rfl (by (try simp only [List.map_toArray, List.map_cons, List.map_nil]); first | done | rfl | (simp only [List.length_drop, List.length_take]; rfl)) ?_; (with_reducible refine (octets_Unhex.calls (⟨#[48, 48, 48, 48, 49, 50, 51, 52]⟩ : ByteArray) t124 t125 _ A5.out).mono ?_); rintro e w24 ⟨rfl, hb⟩; refine ⟨_, rfl, ?_⟩; have n0_ := Aside0.mk (below_step (by repeat (first | (with_reducible first | exact HB.out | apply below_alloc | apply pw_below_drewN | apply below_drew1) | exact HB.out)) hb); clear HB; have HB := n0_; clear n0_; (try clear hb); (try clear hb2); (try clear hk); (try clear hi)) | ((with_reducible refine gate_callee (f := 12) rfl ?_); refine goesL_ (some 38) rfl rfl Tryd.func12 (by kernel_rfl) rfl #[.string (⟨#[48, 65]⟩ : ByteArray)] rfl (by (try simp only [List.map_toArray, List.map_cons, List.map_nil]); first | done | rfl | (simp only [List.length_drop, List.length_take]; rfl)) ?_; (with_reducible refine (octets_Unhex.calls (⟨#[48, 65]⟩ : ByteArray) t126 t127 _ A6.out).mono ?_); rintro e w25 ⟨rfl, hb⟩; refine ⟨_, rfl, ?_⟩; have n0_ := Aside0.mk (below_step (by repeat (first | (with_reducible first | exact HB.out | apply below_alloc | apply pw_below_drewN | apply below_drew1) | exact HB.out)) hb); clear HB; have HB := n0_; clear n0_; (try clear hb); (try clear hb2); (try clear hk); (try clear hi)) | ((with_reducible refine gate_callee (f := 17) rfl ?_); refine goesL_ (some 42) rfl rfl Tryd.func17 (by kernel_rfl) rfl #[.string (⟨#[97, 98, 99]⟩ : ByteArray), .int .i64 1, .int .i64 2] rfl (by (try simp only [List.map_toArray, List.map_cons, List.map_nil]); first | done | rfl | (simp only [List.length_drop, List.length_take]; rfl)) ?_; (with_reducible refine (octets_Cut.calls (⟨#[97, 98, 99]⟩ : ByteArray) 1 2 t128 t129 _ ?sideL A7.out).mono ?_); (case sideL => exact laid_below HLD.out (by repeat (first | (with_reducible first | exact HB.out | apply below_alloc | apply pw_below_drewN | apply below_drew1) | exact HB.out))); rintro e w26 ⟨rfl, hb⟩; refine ⟨_, rfl, ?_⟩; have n0_ := Aside0.mk (below_step (by repeat (first | (with_reducible first | exact HB.out | apply below_alloc | apply pw_below_drewN | apply below_drew1) | exact HB.out)) hb); clear HB; have HB := n0_; clear n0_; (try clear hb); (try clear hb2); (try clear hk); (try clear hi)) | (go_at_call 14; (with_reducible refine (octets_Hex.calls t116 t130 _ A14.out).mono ?_); rintro e w27 ⟨rfl, hb⟩; have n0_ := Aside0.mk (below_step (by repeat (first | (with_reducible first | exact HB.out | apply below_alloc | apply pw_below_drewN | apply below_drew1) | exact HB.out)) hb); clear HB; have HB := n0_; clear n0_; (try clear hb); (try clear hb2); (try clear hk); (try clear hi)))
                        go_ret
                        exact ⟨by first | rfl | (simp [errW_none, errW_some] <;> rfl) | (simp [*, errW_none, errW_some] <;> rfl) | (simp [*, IntKind.wrap_u32]; done) | (simp_all [IntKind.wrap_u32]; done), by repeat (first | (with_reducible first | exact HB.out | apply below_alloc | apply pw_below_drewN | apply below_drew1) | exact HB.out)⟩
                      · rw [if_neg c19] at H
                        exact absurd H (by simp)
                    · rw [if_neg c18] at H
                      exact absurd H (by simp)
                  · rw [if_neg c17] at H
                    exact absurd H (by simp)
                · rw [if_neg c16] at H
                  exact absurd H (by simp)
              · rw [if_neg c15] at H
                exact absurd H (by simp)
            · rw [if_neg c13] at H
              exact absurd H (by simp)
          · rw [if_neg c12] at H
            exact absurd H (by simp)
        · rw [if_neg c11] at H
          exact absurd H (by simp)
      · rw [if_neg c10] at H
        exact absurd H (by simp)
    · rw [if_neg c9] at H
      exact absurd H (by simp)
  · rw [if_neg c8] at H
    exact absurd H (by simp)

/-! ### gangwaylaw01_OctetsPut: function 3 -/
def gangwaylaw01_OctetsPut.f (k : Nat) (a0 : Int) (a1 : Int) : Option (Bool) := (octets_Put.f k a0 a1).bind fun bt131 => ((gangwayref01_Put.f k a0 a1).bind fun bt133 => ((gangwaylaw01_fixed.f k).bind fun t135 => (if t135 = true then (if bt131.1.toList = bt133.1.toList then (some (bt131.2 == bt133.2)) else (none)) else (none))))
theorem gangwaylaw01_OctetsPut.mono : ∀ a0 a1 k, LeO (gangwaylaw01_OctetsPut.f k a0 a1) (gangwaylaw01_OctetsPut.f (k + 1) a0 a1) := by
  intro a0 a1 k
  unfold gangwaylaw01_OctetsPut.f
  repeat' first
      | (with_reducible exact gangwaylaw01_fixed.mono _)
      | (with_reducible exact gangwayref01_Put.mono _ _ _)
      | (with_reducible exact octets_Put.mono _ _ _)
      | (with_reducible exact LeO.refl _)
      | (with_reducible exact LeO.none _)
      | (with_reducible refine LeO.ite ?_ ?_)
      | (with_reducible refine LeO.bind ?_ (fun _ => ?_))
      | exact gangwaylaw01_fixed.mono _
      | exact gangwayref01_Put.mono _ _ _
      | exact octets_Put.mono _ _ _
      | exact LeO.none _
      | refine LeO.ite ?_ ?_
      | refine LeO.bind ?_ (fun _ => ?_)
set_option maxHeartbeats 8000000 in
set_option maxRecDepth 100000 in
theorem gangwaylaw01_OctetsPut.calls (k : Nat) (a0 : Int) (a1 : Int) (r : Bool) (w : World) (hL : Laid w) (h : gangwaylaw01_OctetsPut.f k a0 a1 = some r) :
    Calls Tryd.prog 3 #[.int .u64 a0, .int .i64 a1] w fun e w' => e = .returned (.bool r) ∧ Below w.heap.size w w' := by
  have HLD := Aside0.mk hL
  clear hL
  have HB := Aside0.mk (Below.refl w.heap.size w)
  have H : ((octets_Put.f k a0 a1).bind fun bt131 => ((gangwayref01_Put.f k a0 a1).bind fun bt133 => ((gangwaylaw01_fixed.f k).bind fun t135 => (if t135 = true then (if bt131.1.toList = bt133.1.toList then (some (bt131.2 == bt133.2)) else (none)) else (none))))) = some r := h
  clear h
  replace H := Option.bind_eq_some_iff.mp H
  obtain ⟨⟨t131, t132⟩, A30, H⟩ := H
  replace H : ((gangwayref01_Put.f k a0 a1).bind fun bt133 => ((gangwaylaw01_fixed.f k).bind fun t135 => (if t135 = true then (if t131.toList = bt133.1.toList then (some (t132 == bt133.2)) else (none)) else (none)))) = some r := H
  have A3 := Aside0.mk A30
  clear A30
  replace H := Option.bind_eq_some_iff.mp H
  obtain ⟨⟨t133, t134⟩, A40, H⟩ := H
  replace H : ((gangwaylaw01_fixed.f k).bind fun t135 => (if t135 = true then (if t131.toList = t133.toList then (some (t132 == t134)) else (none)) else (none))) = some r := H
  have A4 := Aside0.mk A40
  clear A40
  replace H := Option.bind_eq_some_iff.mp H
  obtain ⟨t135, A50, H⟩ := H
  replace H : (if t135 = true then (if t131.toList = t133.toList then (some (t132 == t134)) else (none)) else (none)) = some r := H
  have A5 := Aside0.mk A50
  clear A50
  by_cases c6 : t135 = true
  · subst c6
    have H1 : (if t131.toList = t133.toList then (some (t132 == t134)) else (none)) = some r := by rw [if_pos rfl] at H; exact H
    clear H
    have H := H1
    clear H1
    by_cases c7 : t131.toList = t133.toList
    · rw [if_pos c7] at H
      have c7b0 : (t131.toList == t133.toList) = true := beq_iff_eq.mpr c7
      have c7b1 : (t131.toList != t133.toList) = false := bne_eq_false_iff_eq.mpr c7
      clear c7
      obtain rfl := Option.some.inj H
      go_enter Tryd.func3, Tryd.ntmps3
      go_wp2_with (first | ((with_reducible refine gate_callee (f := 9) rfl ?_); refine goesL_ (some 12) rfl rfl Tryd.func9 (by kernel_rfl) rfl #[.int .u64 a0, .int .i64 a1] rfl (by (try simp only [List.map_toArray, List.map_cons, List.map_nil]); first | done | rfl | (simp only [List.length_drop, List.length_take]; rfl)) ?_; (with_reducible refine (octets_Put.calls k a0 a1 t131 t132 _ A3.out).mono ?_); rintro e w8 ⟨rfl, hb⟩; refine ⟨_, rfl, ?_⟩; have n0_ := Aside0.mk (below_step (by repeat (first | (with_reducible first | exact HB.out | apply below_alloc | apply pw_below_drewN | apply below_drew1) | exact HB.out)) hb); clear HB; have HB := n0_; clear n0_; (try clear hb); (try clear hb2); (try clear hk); (try clear hi)) | ((with_reducible refine gate_callee (f := 10) rfl ?_); refine goesL_ (some 18) rfl rfl Tryd.func10 (by kernel_rfl) rfl #[.int .u64 a0, .int .i64 a1] rfl (by (try simp only [List.map_toArray, List.map_cons, List.map_nil]); first | done | rfl | (simp only [List.length_drop, List.length_take]; rfl)) ?_; (with_reducible refine (gangwayref01_Put.calls k a0 a1 t133 t134 _ A4.out).mono ?_); rintro e w9 ⟨rfl, hb⟩; refine ⟨_, rfl, ?_⟩; have n0_ := Aside0.mk (below_step (by repeat (first | (with_reducible first | exact HB.out | apply below_alloc | apply pw_below_drewN | apply below_drew1) | exact HB.out)) hb); clear HB; have HB := n0_; clear n0_; (try clear hb); (try clear hb2); (try clear hk); (try clear hi)) | ((with_reducible refine gate_callee (f := 11) rfl ?_); refine goesL_ (some 21) rfl rfl Tryd.func11 (by kernel_rfl) rfl #[] rfl (by (try simp only [List.map_toArray, List.map_cons, List.map_nil]); first | done | rfl | (simp only [List.length_drop, List.length_take]; rfl)) ?_; (with_reducible refine (gangwaylaw01_fixed.calls k  true _ ?sideL A5.out).mono ?_); (case sideL => exact laid_below HLD.out (by repeat (first | (with_reducible first | exact HB.out | apply below_alloc | apply pw_below_drewN | apply below_drew1) | exact HB.out))); rintro e w10 ⟨rfl, hb⟩; refine ⟨_, rfl, ?_⟩; have n0_ := Aside0.mk (below_step (by repeat (first | (with_reducible first | exact HB.out | apply below_alloc | apply pw_below_drewN | apply below_drew1) | exact HB.out)) hb); clear HB; have HB := n0_; clear n0_; (try clear hb); (try clear hb2); (try clear hk); (try clear hi)))
      go_ret
      exact ⟨by first | rfl | (simp [errW_none, errW_some] <;> rfl) | (simp [*, errW_none, errW_some] <;> rfl) | (simp [*, IntKind.wrap_u32]; done) | (simp_all [IntKind.wrap_u32]; done), by repeat (first | (with_reducible first | exact HB.out | apply below_alloc | apply pw_below_drewN | apply below_drew1) | exact HB.out)⟩
    · rw [if_neg c7] at H
      exact absurd H (by simp)
  · replace c6 := Bool.eq_false_iff.mpr c6
    subst c6
    have H1 : (none) = some r := by rw [if_neg (show ¬ (false = true) by decide)] at H; exact H
    clear H
    have H := H1
    clear H1
    exact absurd H (by simp)


end Go.Proofs.YtclffgkefbdcpaaDoor.P
