-- Written by wip/hprint.py (this session's program) through the kit's print program; hand contracts are marked 'by hand'.
import Derived.Test.YthgdphfblajijaaDoorPx0
import Derived.Test.YthgdphfblajijaaDoorPx6
import Derived.Test.YthgdphfblajijaaDoorPx7
import Derived.Test.YthgdphfblajijaaDoorPx9
namespace Go.Proofs.YthgdphfblajijaaDoor.P
open Go.RowKit Go.Proofs.YthgdphfblajijaaDoorW.PrintWords Go.Proofs.YthgdphfblajijaaDoorW.PrintLast Go.Proofs.YthgdphfblajijaaDoorW.PrintMore
attribute [local go_sem] max2_int min2_int max_two min_two max_three min_three max_four min_four   -- for this text's walks alone
set_option linter.unusedVariables false
set_option linter.unusedSimpArgs false

/-! ### gangwaylaw08_VxlanHashes: function 4 -/
def gangwaylaw08_VxlanHashes.j0 : Nat → ByteArray → Option (Bool)
  | 0, _ => none
  | k + 1, x0 => (gangwaylaw08_fixed.f k).bind fun t150 => (if t150 = true then ((vxlan_Hash.f k x0).bind fun t151 => ((gangwayref08_Hash.f k x0).bind fun t152 => (if t151 = t152 then ((vxlan_Port.f k x0).bind fun t153 => ((gangwayref08_Port.f k x0).bind fun t154 => (some (t153 == t154)))) else (some false)))) else (some false))
def gangwaylaw08_VxlanHashes.f (k : Nat) (a0 : ByteArray) : Option (Bool) := if 0 ≤ (mn (a0.size : Int) 1700) then (if (mn (a0.size : Int) 1700) ≤ (a0.size : Int) then (gangwaylaw08_VxlanHashes.j0 k (a0.extract 0 ((mn (a0.size : Int) 1700) : Int).toNat)) else (none)) else (none)
theorem gangwaylaw08_VxlanHashes.mono_l : ∀ k, (∀ y0, LeO (gangwaylaw08_VxlanHashes.j0 k y0) (gangwaylaw08_VxlanHashes.j0 (k + 1) y0))
  | 0 => fun _ r h => by simp [gangwaylaw08_VxlanHashes.j0] at h
  | k + 1 => by
    have ih0 := gangwaylaw08_VxlanHashes.mono_l k
    · intro y0
      unfold gangwaylaw08_VxlanHashes.j0
      repeat' first
      | (with_reducible exact ih0 _)
      | (with_reducible exact gangwaylaw08_fixed.mono _)
      | (with_reducible exact gangwayref08_Hash.mono _ _)
      | (with_reducible exact gangwayref08_Port.mono _ _)
      | (with_reducible exact vxlan_Hash.mono _ _)
      | (with_reducible exact vxlan_Port.mono _ _)
      | (with_reducible exact LeO.refl _)
      | (with_reducible exact LeO.none _)
      | (with_reducible refine LeO.ite ?_ ?_)
      | (with_reducible refine LeO.bind ?_ (fun _ => ?_))
      | exact ih0 _
      | exact gangwaylaw08_fixed.mono _
      | exact gangwayref08_Hash.mono _ _
      | exact gangwayref08_Port.mono _ _
      | exact vxlan_Hash.mono _ _
      | exact vxlan_Port.mono _ _
      | exact LeO.none _
      | refine LeO.ite ?_ ?_
      | refine LeO.bind ?_ (fun _ => ?_)
theorem gangwaylaw08_VxlanHashes.mono : ∀ a0 k, LeO (gangwaylaw08_VxlanHashes.f k a0) (gangwaylaw08_VxlanHashes.f (k + 1) a0) := by
  intro a0 k
  have ih0 := gangwaylaw08_VxlanHashes.mono_l k
  unfold gangwaylaw08_VxlanHashes.f
  repeat' first
      | (with_reducible exact ih0 _)
      | (with_reducible exact gangwaylaw08_fixed.mono _)
      | (with_reducible exact gangwayref08_Hash.mono _ _)
      | (with_reducible exact gangwayref08_Port.mono _ _)
      | (with_reducible exact vxlan_Hash.mono _ _)
      | (with_reducible exact vxlan_Port.mono _ _)
      | (with_reducible exact LeO.refl _)
      | (with_reducible exact LeO.none _)
      | (with_reducible refine LeO.ite ?_ ?_)
      | (with_reducible refine LeO.bind ?_ (fun _ => ?_))
      | exact ih0 _
      | exact gangwaylaw08_fixed.mono _
      | exact gangwayref08_Hash.mono _ _
      | exact gangwayref08_Port.mono _ _
      | exact vxlan_Hash.mono _ _
      | exact vxlan_Port.mono _ _
      | exact LeO.none _
      | refine LeO.ite ?_ ?_
      | refine LeO.bind ?_ (fun _ => ?_)
set_option maxHeartbeats 8000000 in
set_option maxRecDepth 100000 in
theorem gangwaylaw08_VxlanHashes.calls (k : Nat) (a0 : ByteArray) (r : Bool) (w : World) (h : gangwaylaw08_VxlanHashes.f k a0 = some r) :
    Calls Tryd.prog 4 #[.string a0] w fun e w' => e = .returned (.bool r) ∧ Below w.heap.size w w' := by
  have HB := Aside0.mk (Below.refl w.heap.size w)
  have H : (if 0 ≤ (mn (a0.size : Int) 1700) then (if (mn (a0.size : Int) 1700) ≤ (a0.size : Int) then (gangwaylaw08_VxlanHashes.j0 k (a0.extract 0 ((mn (a0.size : Int) 1700) : Int).toNat)) else (none)) else (none)) = some r := h
  clear h
  have HC2 := Aside0.mk H
  clear H
  go_enter Tryd.func4, Tryd.ntmps4
  go_upto_region 1 with (fail)
  go_cut [0] (fun v0 wc => ∃ (kq : Nat) (x0_1 : ByteArray), v0 = .string x0_1 ∧ Aside0 (gangwaylaw08_VxlanHashes.j0 kq x0_1 = some r) ∧ Aside0 (kq ≤ k) ∧ Aside0 (Below w.heap.size w wc))
  case first =>
    have H := HC2.out
    clear HC2
    obtain ⟨ji3, hji3⟩ : ∃ j_ : Int, (mn (a0.size : Int) 1700) = j_ := ⟨_, rfl⟩
    replace H : (if 0 ≤ (ji3) then (if (ji3) ≤ (a0.size : Int) then (gangwaylaw08_VxlanHashes.j0 k (a0.extract 0 ((ji3) : Int).toNat)) else (none)) else (none)) = some r := by first | (rw [hji3] at H; exact H) | (simp only [hji3] at H ⊢; exact H)
    (try (have hji3h : ji3 ≤ 1700 := by (rw [← hji3]; unfold mn; (repeat' split) <;> omega)))
    (try (have hji3g : ji3 ≤ 64 := by omega))
    (try (have hji3l : 0 ≤ ji3 := by (rw [← hji3]; unfold mn; (repeat' split) <;> omega)))
    (try (have hji3m : 0 ≤ ji3 := by omega))
    have hji3_ : (if 1700 < (a0.size : Int) then 1700 else (a0.size : Int)) = ji3 := hji3
    by_cases c4 : 0 ≤ (ji3)
    · rw [if_pos c4] at H
      have c4b0 := eq_true c4
      have c4b1 : decide (0 ≤ (ji3)) = true := decide_eq_true c4
      clear c4
      by_cases c5 : (ji3) ≤ (a0.size : Int)
      · rw [if_pos c5] at H
        have c5b0 := eq_true c5
        have c5b1 : decide ((ji3) ≤ (a0.size : Int)) = true := decide_eq_true c5
        clear c5
        have H' := Aside0.mk H
        clear H
        go_wp2
        go_meet
        case rel => exact ⟨_, (a0.extract 0 ((ji3) : Int).toNat), (by first | rfl | (simp; done) | (simp only [← hji3] <;> (first | rfl | simp)) | (simp [*]; done)), H', ⟨by first | omega | exact Nat.le_refl _⟩, ⟨by repeat (first | (with_reducible first | exact HB.out | apply below_alloc | apply pw_below_drewN | apply below_drew1) | exact HB.out)⟩⟩
      · rw [if_neg c5] at H
        exact absurd H (by simp)
    · rw [if_neg c4] at H
      exact absurd H (by simp)
  case rest =>
    clear HC2
    try clear p2
    try clear c4
    try clear c4b0
    try clear c4b1
    try clear c5
    try clear c5b0
    try clear c5b1
    obtain ⟨kq, x0_1, rfl, HA, HJ1, HB⟩ := hcut
    cases kq with
    | zero => exact absurd HA.out (by simp [gangwaylaw08_VxlanHashes.j0])
    | succ kj1 =>
      have H := HA.out
      clear HA
      simp only [gangwaylaw08_VxlanHashes.j0] at H
      replace H := Option.bind_eq_some_iff.mp H
      obtain ⟨t150, A60, H⟩ := H
      replace H : (if t150 = true then ((vxlan_Hash.f kj1 x0_1).bind fun t151 => ((gangwayref08_Hash.f kj1 x0_1).bind fun t152 => (if t151 = t152 then ((vxlan_Port.f kj1 x0_1).bind fun t153 => ((gangwayref08_Port.f kj1 x0_1).bind fun t154 => (some (t153 == t154)))) else (some false)))) else (some false)) = some r := H
      have A6 := Aside0.mk A60
      clear A60
      by_cases c7 : t150 = true
      · subst c7
        have H1 : ((vxlan_Hash.f kj1 x0_1).bind fun t151 => ((gangwayref08_Hash.f kj1 x0_1).bind fun t152 => (if t151 = t152 then ((vxlan_Port.f kj1 x0_1).bind fun t153 => ((gangwayref08_Port.f kj1 x0_1).bind fun t154 => (some (t153 == t154)))) else (some false)))) = some r := by rw [if_pos rfl] at H; exact H
        clear H
        have H := H1
        clear H1
        replace H := Option.bind_eq_some_iff.mp H
        obtain ⟨t151, A80, H⟩ := H
        replace H : ((gangwayref08_Hash.f kj1 x0_1).bind fun t152 => (if t151 = t152 then ((vxlan_Port.f kj1 x0_1).bind fun t153 => ((gangwayref08_Port.f kj1 x0_1).bind fun t154 => (some (t153 == t154)))) else (some false))) = some r := H
        have A8 := Aside0.mk A80
        clear A80
        replace H := Option.bind_eq_some_iff.mp H
        obtain ⟨t152, A90, H⟩ := H
        replace H : (if t151 = t152 then ((vxlan_Port.f kj1 x0_1).bind fun t153 => ((gangwayref08_Port.f kj1 x0_1).bind fun t154 => (some (t153 == t154)))) else (some false)) = some r := H
        have A9 := Aside0.mk A90
        clear A90
        by_cases c10 : t151 = t152
        · rw [if_pos c10] at H
          have c10b0 : (t151 == t152) = true := beq_iff_eq.mpr c10
          have c10b1 : (t151 != t152) = false := bne_eq_false_iff_eq.mpr c10
          clear c10
          replace H := Option.bind_eq_some_iff.mp H
          obtain ⟨t153, A110, H⟩ := H
          replace H : ((gangwayref08_Port.f kj1 x0_1).bind fun t154 => (some (t153 == t154))) = some r := H
          have A11 := Aside0.mk A110
          clear A110
          replace H := Option.bind_eq_some_iff.mp H
          obtain ⟨t154, A120, H⟩ := H
          replace H : (some (t153 == t154)) = some r := H
          have A12 := Aside0.mk A120
          clear A120
          obtain rfl := Option.some.inj H
          go_wp2_with (first | ((with_reducible refine gate_callee (f := 12) rfl ?_); refine goesL_ (some 8) rfl rfl Tryd.func12 (by kernel_rfl) rfl #[] rfl (by (try simp only [List.map_toArray, List.map_cons, List.map_nil]); first | done | rfl | (simp only [List.length_drop, List.length_take]; rfl)) ?_; (with_reducible refine (gangwaylaw08_fixed.calls kj1  true _ A6.out).mono ?_); rintro e w13 ⟨rfl, hb⟩; refine ⟨_, rfl, ?_⟩; have n0_ := Aside0.mk (below_step (by repeat (first | (with_reducible first | exact HB.out | apply below_alloc | apply pw_below_drewN | apply below_drew1) | exact HB.out)) hb); clear HB; have HB := n0_; clear n0_; (try clear hb); (try clear hb2); (try clear hk); (try clear hi)) | (go_at_call 13; (with_reducible refine (vxlan_Hash.calls kj1 x0_1 t151 _ A8.out).mono ?_); rintro e w' ⟨rfl, ⟨nd, rfl⟩⟩) | (go_at_call 14; (with_reducible refine (gangwayref08_Hash.calls kj1 x0_1 t152 _ A9.out).mono ?_); rintro e w' ⟨rfl, ⟨nd, rfl⟩⟩) | (go_at_call 15; (with_reducible refine (vxlan_Port.calls kj1 x0_1 t153 _ A11.out).mono ?_); rintro e w14 ⟨rfl, hb⟩; have n0_ := Aside0.mk (below_step (by repeat (first | (with_reducible first | exact HB.out | apply below_alloc | apply pw_below_drewN | apply below_drew1) | exact HB.out)) hb); clear HB; have HB := n0_; clear n0_; (try clear hb); (try clear hb2); (try clear hk); (try clear hi)) | (go_at_call 16; (with_reducible refine (gangwayref08_Port.calls kj1 x0_1 t154 _ A12.out).mono ?_); rintro e w' ⟨rfl, ⟨nd, rfl⟩⟩))
          go_ret
          exact ⟨by first | rfl | (simp [errW_none, errW_some] <;> rfl) | (simp [*, errW_none, errW_some] <;> rfl) | (simp [*, IntKind.wrap_u32]; done) | (simp_all [IntKind.wrap_u32]; done), by repeat (first | (with_reducible first | exact HB.out | apply below_alloc | apply pw_below_drewN | apply below_drew1) | exact HB.out)⟩
        · rw [if_neg c10] at H
          have c10b0 : (t151 == t152) = false := beq_eq_false_iff_ne.mpr c10
          have c10b1 : (t151 != t152) = true := bne_iff_ne.mpr c10
          obtain rfl := Option.some.inj H
          go_wp2_with (first | ((with_reducible refine gate_callee (f := 12) rfl ?_); refine goesL_ (some 8) rfl rfl Tryd.func12 (by kernel_rfl) rfl #[] rfl (by (try simp only [List.map_toArray, List.map_cons, List.map_nil]); first | done | rfl | (simp only [List.length_drop, List.length_take]; rfl)) ?_; (with_reducible refine (gangwaylaw08_fixed.calls kj1  true _ A6.out).mono ?_); rintro e w15 ⟨rfl, hb⟩; refine ⟨_, rfl, ?_⟩; have n0_ := Aside0.mk (below_step (by repeat (first | (with_reducible first | exact HB.out | apply below_alloc | apply pw_below_drewN | apply below_drew1) | exact HB.out)) hb); clear HB; have HB := n0_; clear n0_; (try clear hb); (try clear hb2); (try clear hk); (try clear hi)) | (go_at_call 13; (with_reducible refine (vxlan_Hash.calls kj1 x0_1 t151 _ A8.out).mono ?_); rintro e w' ⟨rfl, ⟨nd, rfl⟩⟩) | (go_at_call 14; (with_reducible refine (gangwayref08_Hash.calls kj1 x0_1 t152 _ A9.out).mono ?_); rintro e w' ⟨rfl, ⟨nd, rfl⟩⟩))
          go_ret
          exact ⟨by first | rfl | (simp [errW_none, errW_some] <;> rfl) | (simp [*, errW_none, errW_some] <;> rfl) | (simp [*, IntKind.wrap_u32]; done) | (simp_all [IntKind.wrap_u32]; done), by repeat (first | (with_reducible first | exact HB.out | apply below_alloc | apply pw_below_drewN | apply below_drew1) | exact HB.out)⟩
      · replace c7 := Bool.eq_false_iff.mpr c7
        subst c7
        have H1 : (some false) = some r := by rw [if_neg (show ¬ (false = true) by decide)] at H; exact H
        clear H
        have H := H1
        clear H1
        obtain rfl := Option.some.inj H
        go_wp2_with (first | ((with_reducible refine gate_callee (f := 12) rfl ?_); refine goesL_ (some 8) rfl rfl Tryd.func12 (by kernel_rfl) rfl #[] rfl (by (try simp only [List.map_toArray, List.map_cons, List.map_nil]); first | done | rfl | (simp only [List.length_drop, List.length_take]; rfl)) ?_; (with_reducible refine (gangwaylaw08_fixed.calls kj1  false _ A6.out).mono ?_); rintro e w16 ⟨rfl, hb⟩; refine ⟨_, rfl, ?_⟩; have n0_ := Aside0.mk (below_step (by repeat (first | (with_reducible first | exact HB.out | apply below_alloc | apply pw_below_drewN | apply below_drew1) | exact HB.out)) hb); clear HB; have HB := n0_; clear n0_; (try clear hb); (try clear hb2); (try clear hk); (try clear hi)))
        go_ret
        exact ⟨by first | rfl | (simp [errW_none, errW_some] <;> rfl) | (simp [*, errW_none, errW_some] <;> rfl) | (simp [*, IntKind.wrap_u32]; done) | (simp_all [IntKind.wrap_u32]; done), by repeat (first | (with_reducible first | exact HB.out | apply below_alloc | apply pw_below_drewN | apply below_drew1) | exact HB.out)⟩

/-- THE ONE PURE STATEMENT of gangwaylaw08_VxlanHashes: yours. -/
def gangwaylaw08_VxlanHashes.Pure : Prop := ∀ (a0 : ByteArray), a0.size ≤ 140737488351232 → ∃ k, gangwaylaw08_VxlanHashes.f k a0 = some true
theorem gangwaylaw08_VxlanHashes.walk (P : gangwaylaw08_VxlanHashes.Pure) (a0 : ByteArray) (w : World) (w0 : a0.size ≤ 140737488351232) :
    Calls Tryd.prog 4 #[.string a0] w fun e w' => e = .returned (.bool true) ∧ Below w.heap.size w w' := by
  obtain ⟨k, h⟩ := P a0 w0
  refine (gangwaylaw08_VxlanHashes.calls k a0 true w h).mono ?_
  rintro e w' ⟨rfl, hd⟩
  exact ⟨rfl, hd⟩

end Go.Proofs.YthgdphfblajijaaDoor.P
