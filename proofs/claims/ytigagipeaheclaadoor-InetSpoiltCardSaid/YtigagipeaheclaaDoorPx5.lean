-- squeezed
-- Written by wip/hprint.py (this session's program) through the kit's print program; hand contracts are marked 'by hand'.
import Derived.Test.YtigagipeaheclaaDoorPx0
import Derived.Test.YtigagipeaheclaaDoorPx4
namespace Go.Proofs.YtigagipeaheclaaDoor.P
open Go.RowKit Go.Proofs.YtigagipeaheclaaDoorW.PrintWords Go.Proofs.YtigagipeaheclaaDoorW.PrintLast Go.Proofs.YtigagipeaheclaaDoorW.PrintMore
attribute [local go_sem] max2_int min2_int max_two min_two max_three min_three max_four min_four   -- for this text's walks alone
set_option linter.unusedVariables false
set_option linter.unusedSimpArgs false

/-! ### csum_total: function 35 -/
mutual
def csum_total.j0 : Nat → ByteArray → Option (Int)
 | 0, _ => none
 | k + 1, x3 => csum_total.l0 k x3 0 0
def csum_total.l0 : Nat → ByteArray → Int → Int → Option (Int)
 | 0, _, _, _ => none
 | k + 1, x3, x4, x5 => if x5 < (x3.size : Int) then (if 0 ≤ x5 then (if 0 ≤ (wrap64 (x5 + 1)) then (if (wrap64 (x5 + 1)) < (x3.size : Int) then ((csum_fold.f k (wrap64 ((wrap64 (x4 + (wrap64 ((wrap64 (bt x3 x5)) * 256)))) + (wrap64 (bt x3 (wrap64 (x5 + 1))))))).bind fun t117 => (csum_total.l0 k x3 t117 (wrap64 (x5 + 2)))) else (none)) else (none)) else (none)) else (some x4)
end
def csum_total.f (k : Nat) (l0 : List ByteArray) : Option (Int) := (strings_Join.f l0 (⟨#[]⟩ : ByteArray)).bind fun t116 => (if ((t116.size : Int) % 2) = 1 then (if t116.size + 1 ≤ 9223372036854775807 then (csum_total.j0 k (t116 ++ (⟨#[0]⟩ : ByteArray))) else (none)) else (csum_total.j0 k t116))
theorem csum_total.mono_l : ∀ k, (∀ y0, LeO (csum_total.j0 k y0) (csum_total.j0 (k + 1) y0)) ∧ (∀ y0 y1 y2, LeO (csum_total.l0 k y0 y1 y2) (csum_total.l0 (k + 1) y0 y1 y2))
 | 0 => ⟨fun _ r h => by simp [csum_total.j0] at h, fun _ _ _ r h => by simp [csum_total.l0] at h⟩
 | k + 1 => by
  obtain ⟨ih0, ih1⟩ := csum_total.mono_l k
  refine ⟨?_, ?_⟩
  ·intro y0
   unfold csum_total.j0
   repeat' first
   | (with_reducible exact ih0 _)
   | (with_reducible exact ih1 _ _ _)
   | (with_reducible exact csum_fold.mono _ _)
   | (with_reducible exact LeO.refl _)
   | (with_reducible exact LeO.none _)
   | (with_reducible refine LeO.ite ?_ ?_)
   | (with_reducible refine LeO.bind ?_ (fun _ => ?_))
   | exact ih0 _
   | exact ih1 _ _ _
   | exact csum_fold.mono _ _
   | exact LeO.none _
   | refine LeO.ite ?_ ?_
   | refine LeO.bind ?_ (fun _ => ?_)
  ·intro y0 y1 y2
   unfold csum_total.l0
   repeat' first
   | (with_reducible exact ih0 _)
   | (with_reducible exact ih1 _ _ _)
   | (with_reducible exact csum_fold.mono _ _)
   | (with_reducible exact LeO.refl _)
   | (with_reducible exact LeO.none _)
   | (with_reducible refine LeO.ite ?_ ?_)
   | (with_reducible refine LeO.bind ?_ (fun _ => ?_))
   | exact ih0 _
   | exact ih1 _ _ _
   | exact csum_fold.mono _ _
   | exact LeO.none _
   | refine LeO.ite ?_ ?_
   | refine LeO.bind ?_ (fun _ => ?_)
theorem csum_total.mono : ∀ a0 k, LeO (csum_total.f k a0) (csum_total.f (k + 1) a0) := by
 intro a0 k
 obtain ⟨ih0, ih1⟩ := csum_total.mono_l k
 unfold csum_total.f
 repeat' first
   | (with_reducible exact ih0 _)
   | (with_reducible exact ih1 _ _ _)
   | (with_reducible exact csum_fold.mono _ _)
   | (with_reducible exact LeO.refl _)
   | (with_reducible exact LeO.none _)
   | (with_reducible refine LeO.ite ?_ ?_)
   | (with_reducible refine LeO.bind ?_ (fun _ => ?_))
   | exact ih0 _
   | exact ih1 _ _ _
   | exact csum_fold.mono _ _
   | exact LeO.none _
   | refine LeO.ite ?_ ?_
   | refine LeO.bind ?_ (fun _ => ?_)
set_option maxHeartbeats 8000000 in
set_option maxRecDepth 100000 in
theorem csum_total.calls (k : Nat) (A0 : Option Addr) (c0 : Nat) (l0 : List ByteArray) (r : Int) (w : World) (hr0 : Kd.C Kd.string w A0 l0.length l0) (hc0 : l0.length ≤ c0) (h : csum_total.f k l0 = some r) :
  Calls Tryd.prog 35 #[.slice A0 l0.length c0] w fun e w' => e = .returned (.int .i64 r) ∧ Below w.heap.size w w' := by
 have HR0 := Aside0.mk hr0
 have HC0 := Aside0.mk hc0
 clear hr0 hc0
 have HB := Aside0.mk (Below.refl w.heap.size w)
 have H : ((strings_Join.f l0 (⟨#[]⟩ : ByteArray)).bind fun t116 => (if ((t116.size : Int) % 2) = 1 then (if t116.size + 1 ≤ 9223372036854775807 then (csum_total.j0 k (t116 ++ (⟨#[0]⟩ : ByteArray))) else (none)) else (csum_total.j0 k t116))) = some r := h
 clear h
 replace H := Option.bind_eq_some_iff.mp H
 obtain ⟨t116, A20, H⟩ := H
 replace H : (if ((t116.size : Int) % 2) = 1 then (if t116.size + 1 ≤ 9223372036854775807 then (csum_total.j0 k (t116 ++ (⟨#[0]⟩ : ByteArray))) else (none)) else (csum_total.j0 k t116)) = some r := H
 have A2 := Aside0.mk A20
 clear A20
 have HC3 := Aside0.mk H
 clear H
 go_enter Tryd.func35, Tryd.ntmps35
 go_upto_if 11 with (first | (go_at_call 44; (with_reducible refine (strings_Join.calls _ _ l0 (⟨#[]⟩ : ByteArray) t116 _ ?side1 ?side2 A2.out).mono ?_); (case side1 => repeat (first | exact HR0.out | (with_reducible refine Kd.C_alloc ?_ _) | (with_reducible refine Kd.C_drewN ?_ _) | (with_reducible refine Kd.C_drew ?_))); (case side2 => exact HC0.out); rintro e w4 ⟨rfl, hb⟩; have n0_ := Aside0.mk (below_step (by repeat (first | (with_reducible first | exact HB.out | apply below_alloc | apply pw_below_drewN | apply below_drew1) | exact HB.out)) hb); clear HB; have HB := n0_; clear n0_; (try clear hb); (try clear hb2); (try clear hk); (try clear hi)))
 repeat (go_quiet (first | (go_at_call 44; (with_reducible refine (strings_Join.calls _ _ l0 (⟨#[]⟩ : ByteArray) t116 _ ?side1 ?side2 A2.out).mono ?_); (case side1 => repeat (first | exact HR0.out | (with_reducible refine Kd.C_alloc ?_ _) | (with_reducible refine Kd.C_drewN ?_ _) | (with_reducible refine Kd.C_drew ?_))); (case side2 => exact HC0.out); rintro e w4 ⟨rfl, hb⟩; have n0_ := Aside0.mk (below_step (by repeat (first | (with_reducible first | exact HB.out | apply below_alloc | apply pw_below_drewN | apply below_drew1) | exact HB.out)) hb); clear HB; have HB := n0_; clear n0_; (try clear hb); (try clear hb2); (try clear hk); (try clear hi))); go_upto_if 11 with (first | (go_at_call 44; (with_reducible refine (strings_Join.calls _ _ l0 (⟨#[]⟩ : ByteArray) t116 _ ?side1 ?side2 A2.out).mono ?_); (case side1 => repeat (first | exact HR0.out | (with_reducible refine Kd.C_alloc ?_ _) | (with_reducible refine Kd.C_drewN ?_ _) | (with_reducible refine Kd.C_drew ?_))); (case side2 => exact HC0.out); rintro e w4 ⟨rfl, hb⟩; have n0_ := Aside0.mk (below_step (by repeat (first | (with_reducible first | exact HB.out | apply below_alloc | apply pw_below_drewN | apply below_drew1) | exact HB.out)) hb); clear HB; have HB := n0_; clear n0_; (try clear hb); (try clear hb2); (try clear hk); (try clear hi))))
 (try simp only [Act.put, List.setIfInBounds_toArray, List.set_cons_zero, List.set_cons_succ])
 go_cut [3] (fun v3 wc => ∃ (kq : Nat) (x3_2 : ByteArray), v3 = .string x3_2 ∧ Aside0 (csum_total.j0 kq x3_2 = some r) ∧ Aside0 (kq ≤ k) ∧ Aside0 (Below w.heap.size w wc))
 case first =>
  have H := HC3.out
  clear HC3
  by_cases c5 : ((t116.size : Int) % 2) = 1
  ·rw [if_pos c5] at H
   have c5b0 : (((t116.size : Int) % 2) == 1) = true := beq_iff_eq.mpr c5
   have c5b1 : (((t116.size : Int) % 2) != 1) = false := bne_eq_false_iff_eq.mpr c5
   clear c5
   (first | rw [c5b0] | (simp only [i64_w, i32_w]; rw [c5b0]) | skip)
   by_cases c6 : t116.size + 1 ≤ 9223372036854775807
   ·rw [if_pos c6] at H
    have c6b0 := eq_true c6
    have c6b1 : decide (t116.size + 1 ≤ 9223372036854775807) = true := decide_eq_true c6
    try have c6b2 : (9223372036854775807 < t116.size + 1) = False := eq_false (Nat.not_lt.2 c6)
    have H' := Aside0.mk H
    clear H
    go_wp2
    repeat (go_quiet (fail); try go_wp2)
    go_meet
    case rel => exact ⟨_, (t116 ++ (⟨#[0]⟩ : ByteArray)), (by first | rfl | (simp; done) | (simp [*]; done)), H', ⟨by first | omega | exact Nat.le_refl _⟩, ⟨by repeat (first | (with_reducible first | exact HB.out | apply below_alloc | apply pw_below_drewN | apply below_drew1) | exact HB.out)⟩⟩
   ·rw [if_neg c6] at H
    exact absurd H (by simp)
  ·rw [if_neg c5] at H
   have c5b0 : (((t116.size : Int) % 2) == 1) = false := beq_eq_false_iff_ne.mpr c5
   have c5b1 : (((t116.size : Int) % 2) != 1) = true := bne_iff_ne.mpr c5
   (first | rw [c5b0] | (simp only [i64_w, i32_w]; rw [c5b0]) | skip)
   have H' := Aside0.mk H
   clear H
   go_wp2
   repeat (go_quiet (fail); try go_wp2)
   go_meet
   case rel => exact ⟨_, (t116), (by first | rfl | (simp; done) | (simp [*]; done)), H', ⟨by first | omega | exact Nat.le_refl _⟩, ⟨by repeat (first | (with_reducible first | exact HB.out | apply below_alloc | apply pw_below_drewN | apply below_drew1) | exact HB.out)⟩⟩
 case rest =>
  clear HC3
  try clear p2
  try clear c3
  try clear c5
  try clear c5b0
  try clear c5b1
  try clear c6
  try clear c6b0
  try clear c6b1
  try clear c6b2
  obtain ⟨kq, x3_2, rfl, HA, HJ2, HB⟩ := hcut
  cases kq with
  | zero => exact absurd HA.out (by simp [csum_total.j0])
  | succ kj2 =>
   have H := HA.out
   clear HA
   simp only [csum_total.j0] at H
   have H' := Aside0.mk H
   clear H
   go_wp2
   repeat (go_quiet (fail); try go_wp2)
   go_loopg [4, 5] kj2 (fun kq v4 v5 w' => ∃ (x4_2 : Int) (x5_2 : Int), v4 = .int .i64 x4_2 ∧ v5 = .int .i64 x5_2 ∧ Aside0 (csum_total.l0 kq x3_2 x4_2 x5_2 = some r) ∧ Aside0 (kq ≤ kj2) ∧ Aside0 (Below w.heap.size w w'))
   case atStart => exact ⟨(0), (0), (by first | rfl | (simp; done) | (simp [*]; done)), (by first | rfl | (simp; done) | (simp [*]; done)), H', ⟨Nat.le_refl _⟩, ⟨by repeat (first | (with_reducible first | exact HB.out | apply below_alloc | apply pw_below_drewN | apply below_drew1) | exact HB.out)⟩⟩
   case round =>
    clear H'
    try clear p2
    try clear c3
    try clear c5
    try clear c5b0
    try clear c5b1
    try clear c6
    try clear c6b0
    try clear c6b1
    try clear c6b2
    try clear p2
    obtain ⟨x4_2, x5_2, rfl, rfl, HA, HK2, HB⟩ := hrel
    cases gk with
    | zero => exact absurd HA.out (by simp [csum_total.l0])
    | succ k2 =>
     have H := HA.out
     clear HA
     simp only [csum_total.l0] at H
     by_cases c7 : x5_2 < (x3_2.size : Int)
     ·rw [if_pos c7] at H
      have c7b0 : decide (x5_2 < (x3_2.size : Int)) = true := decide_eq_true c7
      clear c7
      by_cases c8 : 0 ≤ x5_2
      ·rw [if_pos c8] at H
       have c8b0 : decide (0 ≤ x5_2) = true := decide_eq_true c8
       clear c8
       obtain ⟨ji10, hji10⟩ : ∃ j_ : Int, (wrap64 (x5_2 + 1)) = j_ := ⟨_, rfl⟩
       replace H : (if 0 ≤ (ji10) then (if (ji10) < (x3_2.size : Int) then ((csum_fold.f k2 (wrap64 ((wrap64 (x4_2 + (wrap64 ((wrap64 (bt x3_2 x5_2)) * 256)))) + (wrap64 (bt x3_2 (ji10)))))).bind fun t117 => (csum_total.l0 k2 x3_2 t117 (wrap64 (x5_2 + 2)))) else (none)) else (none)) = some r := by first | (rw [hji10] at H; exact H) | (simp only [hji10] at H ⊢; exact H)
       have hji10w : (IntKind.i64.wrap (x5_2 + 1)) = ji10 := (i64_w _).trans hji10
       by_cases c11 : 0 ≤ (ji10)
       ·rw [if_pos c11] at H
        have c11b0 : decide (0 ≤ (ji10)) = true := decide_eq_true c11
        clear c11
        by_cases c12 : (ji10) < (x3_2.size : Int)
        ·rw [if_pos c12] at H
         have c12b0 : decide ((ji10) < (x3_2.size : Int)) = true := decide_eq_true c12
         clear c12
         replace H := Option.bind_eq_some_iff.mp H
         obtain ⟨t117, A140, H⟩ := H
         replace H : (csum_total.l0 k2 x3_2 t117 (wrap64 (x5_2 + 2))) = some r := H
         have A14 := Aside0.mk A140
         clear A140
         have H' := Aside0.mk H
         clear H
         have p9 : 0 ≤ (x5_2 : Int) := of_decide_eq_true (by first | (with_reducible assumption) | assumption)
         have q9 : x5_2 < (x3_2.size : Int) := of_decide_eq_true (by first | (with_reducible assumption) | assumption)
         have hx9 := bt_at x3_2 x5_2
         replace p9 := eq_true p9
         replace q9 := eq_true q9
         have p13 : 0 ≤ ((ji10) : Int) := of_decide_eq_true (by first | (with_reducible assumption) | assumption)
         have q13 : (ji10) < (x3_2.size : Int) := of_decide_eq_true (by first | (with_reducible assumption) | assumption)
         have hx13 := bt_at x3_2 (ji10)
         replace p13 := eq_true p13
         replace q13 := eq_true q13
         go_wp2_with (first | (go_at_call 42; (with_reducible refine (csum_fold.calls k2 (wrap64 ((wrap64 (x4_2 + (wrap64 ((wrap64 (bt x3_2 x5_2)) * 256)))) + (wrap64 (bt x3_2 (ji10))))) t117 _ A14.out).mono ?_); rintro e w' ⟨rfl, ⟨nd, rfl⟩⟩; (try first | exact ⟨rfl, _, World.drewN_drewN _ _ _⟩ | exact ⟨rfl, _, Eq.trans (World.drewN_drewN _ _ _) (congrArg (World.drewN _) (Nat.add_assoc _ _ _))⟩)))
         repeat (go_quiet (first | (go_at_call 42; (with_reducible refine (csum_fold.calls k2 (wrap64 ((wrap64 (x4_2 + (wrap64 ((wrap64 (bt x3_2 x5_2)) * 256)))) + (wrap64 (bt x3_2 (ji10))))) t117 _ A14.out).mono ?_); rintro e w' ⟨rfl, ⟨nd, rfl⟩⟩; (try first | exact ⟨rfl, _, World.drewN_drewN _ _ _⟩ | exact ⟨rfl, _, Eq.trans (World.drewN_drewN _ _ _) (congrArg (World.drewN _) (Nat.add_assoc _ _ _))⟩))); try go_wp2_with (first | (go_at_call 42; (with_reducible refine (csum_fold.calls k2 (wrap64 ((wrap64 (x4_2 + (wrap64 ((wrap64 (bt x3_2 x5_2)) * 256)))) + (wrap64 (bt x3_2 (ji10))))) t117 _ A14.out).mono ?_); rintro e w' ⟨rfl, ⟨nd, rfl⟩⟩; (try first | exact ⟨rfl, _, World.drewN_drewN _ _ _⟩ | exact ⟨rfl, _, Eq.trans (World.drewN_drewN _ _ _) (congrArg (World.drewN _) (Nat.add_assoc _ _ _))⟩))))
         go_roundg k2
         case measure => have := HJ2.out; have := HK2.out; omega
         case rel => exact ⟨(t117), (wrap64 (x5_2 + 2)), (by first | rfl | (simp; done) | (simp [*]; done)), (by first | rfl | (simp; done) | (simp [*]; done)), H', ⟨by have := HJ2.out; have := HK2.out; omega⟩, ⟨by repeat (first | (with_reducible first | exact HB.out | apply below_alloc | apply pw_below_drewN | apply below_drew1) | exact HB.out)⟩⟩
        ·rw [if_neg c12] at H
         exact absurd H (by simp)
       ·rw [if_neg c11] at H
        exact absurd H (by simp)
      ·rw [if_neg c8] at H
       exact absurd H (by simp)
     ·rw [if_neg c7] at H
      have c7b0 : decide (x5_2 < (x3_2.size : Int)) = false := decide_eq_false c7
      clear c7
      obtain rfl := Option.some.inj H
      go_wp2
      repeat (go_quiet (fail); try go_wp2)
      go_ret
      exact ⟨by first | rfl | (simp [errW_none, errW_some] <;> rfl) | (simp [*, errW_none, errW_some] <;> rfl) | (simp [*, IntKind.wrap_u32]; done) | (simp_all [IntKind.wrap_u32]; done), by repeat (first | (with_reducible first | exact HB.out | apply below_alloc | apply pw_below_drewN | apply below_drew1) | exact HB.out)⟩

end Go.Proofs.YtigagipeaheclaaDoor.P
