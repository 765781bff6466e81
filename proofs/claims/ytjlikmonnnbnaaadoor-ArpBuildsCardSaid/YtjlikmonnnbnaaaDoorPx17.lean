-- Written by wip/hprint.py (this session's program) through the kit's print program; hand contracts are marked 'by hand'.
import Derived.Test.YtjlikmonnnbnaaaDoorPx0
import Derived.Test.YtjlikmonnnbnaaaDoorPx1
import Derived.Test.YtjlikmonnnbnaaaDoorPx4
import Derived.Test.YtjlikmonnnbnaaaDoorPx7
import Derived.Test.YtjlikmonnnbnaaaDoorPx10
import Derived.Test.YtjlikmonnnbnaaaDoorPx12
import Derived.Test.YtjlikmonnnbnaaaDoorPx13
import Derived.Test.YtjlikmonnnbnaaaDoorPx16
namespace Go.Proofs.YtjlikmonnnbnaaaDoor.P
open Go.RowKit Go.Proofs.YtjlikmonnnbnaaaDoorW.PrintWords Go.Proofs.YtjlikmonnnbnaaaDoorW.PrintLast Go.Proofs.YtjlikmonnnbnaaaDoorW.PrintMore
attribute [local go_sem] max2_int min2_int max_two min_two max_three min_three max_four min_four   -- for this text's walks alone
set_option linter.unusedVariables false
set_option linter.unusedSimpArgs false

attribute [local go_sem high] eqA25
/-! ### gangwaylaw05_ArpBuilds: function 3 -/
def gangwaylaw05_ArpBuilds.j0 : Nat → ByteArray → Int → Int → Int → Int → Int → Option (Bool)
  | 0, _, _, _, _, _, _ => none
  | k + 1, x1, x209000, x209001, x209002, x209003, x209004 => (arp_Build.f k x209000 x209001 x209002 x209003 x209004).bind fun bt209 => ((gangwayref05_Build.f k x209000 x209001 x209002 x209003 x209004).bind fun bt211 => ((arp_Parse.f k x1).bind fun bt213 => ((gangwayref05_Parse.f k x1).bind fun bt220 => ((gangwaylaw05_fixed.f k).bind fun t227 => (if t227 = true then (if bt209.1.toList = bt211.1.toList then (if bt209.2 = bt211.2 then ((arp_Check.f x209000 x209001 x209002 x209003 x209004).bind fun t228 => ((gangwayref05_Check.f x209000 x209001 x209002 x209003 x209004).bind fun t229 => (if t228 = t229 then (if (bt213.1 == bt220.1 && (bt213.2.1 == bt220.2.1 && (bt213.2.2.1 == bt220.2.2.1 && (bt213.2.2.2.1 == bt220.2.2.2.1 && (bt213.2.2.2.2.1 == bt220.2.2.2.2.1))))) = true then (some (bt213.2.2.2.2.2 == bt220.2.2.2.2.2)) else (none)) else (none)))) else (none)) else (none)) else (none))))))
def gangwaylaw05_ArpBuilds.f (k : Nat) (a0_0 : Int) (a0_1 : Int) (a0_2 : Int) (a0_3 : Int) (a0_4 : Int) (a1 : ByteArray) : Option (Bool) := if 0 ≤ (mn (a1.size : Int) 100) then (if (mn (a1.size : Int) 100) ≤ (a1.size : Int) then (gangwaylaw05_ArpBuilds.j0 k (a1.extract 0 ((mn (a1.size : Int) 100) : Int).toNat) a0_0 a0_1 a0_2 a0_3 a0_4) else (none)) else (none)
theorem gangwaylaw05_ArpBuilds.mono_l : ∀ k, (∀ y0 y1 y2 y3 y4 y5, LeO (gangwaylaw05_ArpBuilds.j0 k y0 y1 y2 y3 y4 y5) (gangwaylaw05_ArpBuilds.j0 (k + 1) y0 y1 y2 y3 y4 y5))
  | 0 => fun _ _ _ _ _ _ r h => by simp [gangwaylaw05_ArpBuilds.j0] at h
  | k + 1 => by
    have ih0 := gangwaylaw05_ArpBuilds.mono_l k
    · intro y0 y1 y2 y3 y4 y5
      unfold gangwaylaw05_ArpBuilds.j0
      repeat' first
      | (with_reducible exact ih0 _ _ _ _ _ _)
      | (with_reducible exact arp_Build.mono _ _ _ _ _ _)
      | (with_reducible exact arp_Parse.mono _ _)
      | (with_reducible exact gangwaylaw05_fixed.mono _)
      | (with_reducible exact gangwayref05_Build.mono _ _ _ _ _ _)
      | (with_reducible exact gangwayref05_Parse.mono _ _)
      | (with_reducible exact LeO.refl _)
      | (with_reducible exact LeO.none _)
      | (with_reducible refine LeO.ite ?_ ?_)
      | (with_reducible refine LeO.bind ?_ (fun _ => ?_))
      | exact ih0 _ _ _ _ _ _
      | exact arp_Build.mono _ _ _ _ _ _
      | exact arp_Parse.mono _ _
      | exact gangwaylaw05_fixed.mono _
      | exact gangwayref05_Build.mono _ _ _ _ _ _
      | exact gangwayref05_Parse.mono _ _
      | exact LeO.none _
      | refine LeO.ite ?_ ?_
      | refine LeO.bind ?_ (fun _ => ?_)
theorem gangwaylaw05_ArpBuilds.mono : ∀ a0 a1 a2 a3 a4 a5 k, LeO (gangwaylaw05_ArpBuilds.f k a0 a1 a2 a3 a4 a5) (gangwaylaw05_ArpBuilds.f (k + 1) a0 a1 a2 a3 a4 a5) := by
  intro a0 a1 a2 a3 a4 a5 k
  have ih0 := gangwaylaw05_ArpBuilds.mono_l k
  unfold gangwaylaw05_ArpBuilds.f
  repeat' first
      | (with_reducible exact ih0 _ _ _ _ _ _)
      | (with_reducible exact arp_Build.mono _ _ _ _ _ _)
      | (with_reducible exact arp_Parse.mono _ _)
      | (with_reducible exact gangwaylaw05_fixed.mono _)
      | (with_reducible exact gangwayref05_Build.mono _ _ _ _ _ _)
      | (with_reducible exact gangwayref05_Parse.mono _ _)
      | (with_reducible exact LeO.refl _)
      | (with_reducible exact LeO.none _)
      | (with_reducible refine LeO.ite ?_ ?_)
      | (with_reducible refine LeO.bind ?_ (fun _ => ?_))
      | exact ih0 _ _ _ _ _ _
      | exact arp_Build.mono _ _ _ _ _ _
      | exact arp_Parse.mono _ _
      | exact gangwaylaw05_fixed.mono _
      | exact gangwayref05_Build.mono _ _ _ _ _ _
      | exact gangwayref05_Parse.mono _ _
      | exact LeO.none _
      | refine LeO.ite ?_ ?_
      | refine LeO.bind ?_ (fun _ => ?_)
def gangwaylaw05_ArpBuilds.T6 : Bool × List (List Nat × List Nat) := (true, [([], []), ([0, 0], [0]), ([1], [1]), ([1], [1]), ([2, 3, 1], [1, 2, 3]), ([1, 4], [1, 4]), ([5, 1], [5]), ([6], [6]), ([6], [6]), ([7, 8, 6], [6, 7, 8]), ([6, 9], [6, 9]), ([10, 6], [10]), ([11], [11]), ([12, 11, 11], [11, 12]), ([11], [11]), ([14, 13, 11], [11, 14]), ([13, 15, 11], [11, 13, 15]), ([11, 16], [11, 16]), ([17, 15], [17]), ([18], [18]), ([18], [18]), ([19, 20, 18], [18, 19, 20]), ([18, 21], [18, 21]), ([22, 18], [22]), ([23], [23]), ([23], [23]), ([24, 25, 23], [23, 24, 25]), ([23, 26], [23, 26]), ([27, 23, 0, 1, 2, 3, 4, 5, 6, 7, 8, 9, 10, 11, 12, 13, 14, 15, 16, 17, 18, 19, 20, 21, 22, 23, 24, 25, 26, 27], [27])])
def gangwaylaw05_ArpBuilds.B6 : List Nat := [0, 1, 3, 3, 15, 31, 63, 127, 127, 511, 1023, 2047, 4095, 8191, 4095, 32767, 65535, 131071, 262143, 524287, 524287, 2097151, 4194303, 8388607, 16777215, 16777215, 67108863, 134217727, 268435455]
theorem gangwaylaw05_ArpBuilds.tab6 : rtab .any (opsOf Tryd.f3 6) = gangwaylaw05_ArpBuilds.T6 := by kernel_rfl
theorem gangwaylaw05_ArpBuilds.bits6 : waitsOk gangwaylaw05_ArpBuilds.T6.2 gangwaylaw05_ArpBuilds.B6 = true := by kernel_rfl
set_option maxHeartbeats 8000000 in
set_option maxRecDepth 100000 in
theorem gangwaylaw05_ArpBuilds.calls (k : Nat) (a0_0 : Int) (a0_1 : Int) (a0_2 : Int) (a0_3 : Int) (a0_4 : Int) (a1 : ByteArray) (r : Bool) (w : World) (h : gangwaylaw05_ArpBuilds.f k a0_0 a0_1 a0_2 a0_3 a0_4 a1 = some r) :
    Calls Tryd.prog 3 #[.agg #[.int .i64 a0_0, .int .u64 a0_1, .int .u32 a0_2, .int .u64 a0_3, .int .u32 a0_4], .string a1] w fun e w' => e = .returned (.bool r) ∧ Below w.heap.size w w' := by
  have hu25 := Tryd.underlying25
  have HB := Aside0.mk (Below.refl w.heap.size w)
  have H : (if 0 ≤ (mn (a1.size : Int) 100) then (if (mn (a1.size : Int) 100) ≤ (a1.size : Int) then (gangwaylaw05_ArpBuilds.j0 k (a1.extract 0 ((mn (a1.size : Int) 100) : Int).toNat) a0_0 a0_1 a0_2 a0_3 a0_4) else (none)) else (none)) = some r := h
  clear h
  have HC3 := Aside0.mk H
  clear H
  go_enter Tryd.func3, Tryd.ntmps3
  go_upto_region 1 with (first | ((with_reducible refine gate_dst (N := 2) rfl ?_); refine box_event ?hg (N := 2) ?hd (cs := #[.int .i64 a0_0, .int .u64 a0_1, .int .u32 a0_2, .int .u64 a0_3, .int .u32 a0_4]) (t := 25) ?hr ?_; (case hd => rfl); (case hg => rfl); (case hr => first | (go_simp; done) | (go_simp; rfl)); intro gb208 hg w4 hbox hb; have n0_ := Aside0.mk (below_step (by repeat (first | (with_reducible first | exact HB.out | apply below_alloc | apply pw_below_drewN | apply below_drew1) | exact HB.out)) hb); have n1_ := Aside0.mk (hbox); have n2_ := Aside0.mk ((by rw [hg]; exact (below_size (by repeat (first | (with_reducible first | exact HB.out | apply below_alloc | apply pw_below_drewN | apply below_drew1) | exact HB.out))) : w.heap.size ≤ gb208)); have n3_ := Aside0.mk ((by rw [hg]; exact (below_size (by repeat (first | (with_reducible first | exact HB.out | apply below_alloc | apply pw_below_drewN | apply below_drew1) | exact HB.out))) : w.heap.size ≤ gb208)); clear HB; have HB := n0_; have BK208 := n1_; have GW208 := n2_; have GE208 := n3_; clear n0_ n1_ n2_ n3_; clear hb hbox hg))
  (try simp only [Act.put, List.setIfInBounds_toArray, List.set_cons_zero, List.set_cons_succ])
  go_cut [1] (fun v1 wc => ∃ (kq : Nat) (x1_2 : ByteArray), v1 = .string x1_2 ∧ Aside0 (gangwaylaw05_ArpBuilds.j0 kq x1_2 a0_0 a0_1 a0_2 a0_3 a0_4 = some r) ∧ Aside0 (kq ≤ k) ∧ Aside0 (wc.heap[gb208]? = some (.cells #[.int .i64 a0_0, .int .u64 a0_1, .int .u32 a0_2, .int .u64 a0_3, .int .u32 a0_4] 25 (0, 0))) ∧ Aside0 (Below w.heap.size w wc))
  case first =>
    have H := HC3.out
    clear HC3
    obtain ⟨ji5, hji5⟩ : ∃ j_ : Int, (mn (a1.size : Int) 100) = j_ := ⟨_, rfl⟩
    replace H : (if 0 ≤ (ji5) then (if (ji5) ≤ (a1.size : Int) then (gangwaylaw05_ArpBuilds.j0 k (a1.extract 0 ((ji5) : Int).toNat) a0_0 a0_1 a0_2 a0_3 a0_4) else (none)) else (none)) = some r := by first | (rw [hji5] at H; exact H) | (simp only [hji5] at H ⊢; exact H)
    (try (have hji5h : ji5 ≤ 100 := by (rw [← hji5]; unfold mn; (repeat' split) <;> omega)))
    (try (have hji5g : ji5 ≤ 64 := by omega))
    (try (have hji5l : 0 ≤ ji5 := by (rw [← hji5]; unfold mn; (repeat' split) <;> omega)))
    (try (have hji5m : 0 ≤ ji5 := by omega))
    have hji5_ : (if 100 < (a1.size : Int) then 100 else (a1.size : Int)) = ji5 := hji5
    by_cases c6 : 0 ≤ (ji5)
    · rw [if_pos c6] at H
      have c6b0 := eq_true c6
      have c6b1 : decide (0 ≤ (ji5)) = true := decide_eq_true c6
      clear c6
      by_cases c7 : (ji5) ≤ (a1.size : Int)
      · rw [if_pos c7] at H
        have c7b0 := eq_true c7
        have c7b1 : decide ((ji5) ≤ (a1.size : Int)) = true := decide_eq_true c7
        clear c7
        have H' := Aside0.mk H
        clear H
        go_wp2
        go_meet
        case rel => exact ⟨_, (a1.extract 0 ((ji5) : Int).toNat), (by first | rfl | (simp; done) | (simp only [← hji5] <;> (first | rfl | simp)) | (simp [*]; done)), H', ⟨by first | omega | exact Nat.le_refl _⟩, ⟨by (with_reducible repeat (first | refine blk_drewN ?_ _ | refine blk_drew ?_ | refine blk_alloc ?_ _)); exact BK208.out⟩, ⟨by repeat (first | (with_reducible first | exact HB.out | apply below_alloc | apply pw_below_drewN | apply below_drew1 | refine below_set ?_ GE208.out) | exact HB.out)⟩⟩
      · rw [if_neg c7] at H
        exact absurd H (by simp)
    · rw [if_neg c6] at H
      exact absurd H (by simp)
  case rest =>
    clear HC3
    try clear p2
    try clear c3
    try clear c6
    try clear c6b0
    try clear c6b1
    try clear c7
    try clear c7b0
    try clear c7b1
    obtain ⟨kq, x1_2, rfl, HA, HJ2, BK208, HB⟩ := hcut
    cases kq with
    | zero => exact absurd HA.out (by simp [gangwaylaw05_ArpBuilds.j0])
    | succ kj2 =>
      have H := HA.out
      clear HA
      simp only [gangwaylaw05_ArpBuilds.j0] at H
      replace H := Option.bind_eq_some_iff.mp H
      obtain ⟨⟨t209, t210⟩, A80, H⟩ := H
      replace H : ((gangwayref05_Build.f kj2 a0_0 a0_1 a0_2 a0_3 a0_4).bind fun bt211 => ((arp_Parse.f kj2 x1_2).bind fun bt213 => ((gangwayref05_Parse.f kj2 x1_2).bind fun bt220 => ((gangwaylaw05_fixed.f kj2).bind fun t227 => (if t227 = true then (if t209.toList = bt211.1.toList then (if t210 = bt211.2 then ((arp_Check.f a0_0 a0_1 a0_2 a0_3 a0_4).bind fun t228 => ((gangwayref05_Check.f a0_0 a0_1 a0_2 a0_3 a0_4).bind fun t229 => (if t228 = t229 then (if (bt213.1 == bt220.1 && (bt213.2.1 == bt220.2.1 && (bt213.2.2.1 == bt220.2.2.1 && (bt213.2.2.2.1 == bt220.2.2.2.1 && (bt213.2.2.2.2.1 == bt220.2.2.2.2.1))))) = true then (some (bt213.2.2.2.2.2 == bt220.2.2.2.2.2)) else (none)) else (none)))) else (none)) else (none)) else (none)))))) = some r := H
      have A8 := Aside0.mk A80
      clear A80
      replace H := Option.bind_eq_some_iff.mp H
      obtain ⟨⟨t211, t212⟩, A90, H⟩ := H
      replace H : ((arp_Parse.f kj2 x1_2).bind fun bt213 => ((gangwayref05_Parse.f kj2 x1_2).bind fun bt220 => ((gangwaylaw05_fixed.f kj2).bind fun t227 => (if t227 = true then (if t209.toList = t211.toList then (if t210 = t212 then ((arp_Check.f a0_0 a0_1 a0_2 a0_3 a0_4).bind fun t228 => ((gangwayref05_Check.f a0_0 a0_1 a0_2 a0_3 a0_4).bind fun t229 => (if t228 = t229 then (if (bt213.1 == bt220.1 && (bt213.2.1 == bt220.2.1 && (bt213.2.2.1 == bt220.2.2.1 && (bt213.2.2.2.1 == bt220.2.2.2.1 && (bt213.2.2.2.2.1 == bt220.2.2.2.2.1))))) = true then (some (bt213.2.2.2.2.2 == bt220.2.2.2.2.2)) else (none)) else (none)))) else (none)) else (none)) else (none))))) = some r := H
      have A9 := Aside0.mk A90
      clear A90
      replace H := Option.bind_eq_some_iff.mp H
      obtain ⟨⟨t213, t214, t215, t216, t217, t218⟩, A100, H⟩ := H
      replace H : ((gangwayref05_Parse.f kj2 x1_2).bind fun bt220 => ((gangwaylaw05_fixed.f kj2).bind fun t227 => (if t227 = true then (if t209.toList = t211.toList then (if t210 = t212 then ((arp_Check.f a0_0 a0_1 a0_2 a0_3 a0_4).bind fun t228 => ((gangwayref05_Check.f a0_0 a0_1 a0_2 a0_3 a0_4).bind fun t229 => (if t228 = t229 then (if (t213 == bt220.1 && (t214 == bt220.2.1 && (t215 == bt220.2.2.1 && (t216 == bt220.2.2.2.1 && (t217 == bt220.2.2.2.2.1))))) = true then (some (t218 == bt220.2.2.2.2.2)) else (none)) else (none)))) else (none)) else (none)) else (none)))) = some r := H
      have A10 := Aside0.mk A100
      clear A100
      replace H := Option.bind_eq_some_iff.mp H
      obtain ⟨⟨t220, t221, t222, t223, t224, t225⟩, A110, H⟩ := H
      replace H : ((gangwaylaw05_fixed.f kj2).bind fun t227 => (if t227 = true then (if t209.toList = t211.toList then (if t210 = t212 then ((arp_Check.f a0_0 a0_1 a0_2 a0_3 a0_4).bind fun t228 => ((gangwayref05_Check.f a0_0 a0_1 a0_2 a0_3 a0_4).bind fun t229 => (if t228 = t229 then (if (t213 == t220 && (t214 == t221 && (t215 == t222 && (t216 == t223 && (t217 == t224))))) = true then (some (t218 == t225)) else (none)) else (none)))) else (none)) else (none)) else (none))) = some r := H
      have A11 := Aside0.mk A110
      clear A110
      replace H := Option.bind_eq_some_iff.mp H
      obtain ⟨t227, A120, H⟩ := H
      replace H : (if t227 = true then (if t209.toList = t211.toList then (if t210 = t212 then ((arp_Check.f a0_0 a0_1 a0_2 a0_3 a0_4).bind fun t228 => ((gangwayref05_Check.f a0_0 a0_1 a0_2 a0_3 a0_4).bind fun t229 => (if t228 = t229 then (if (t213 == t220 && (t214 == t221 && (t215 == t222 && (t216 == t223 && (t217 == t224))))) = true then (some (t218 == t225)) else (none)) else (none)))) else (none)) else (none)) else (none)) = some r := H
      have A12 := Aside0.mk A120
      clear A120
      by_cases c13 : t227 = true
      · subst c13
        have H1 : (if t209.toList = t211.toList then (if t210 = t212 then ((arp_Check.f a0_0 a0_1 a0_2 a0_3 a0_4).bind fun t228 => ((gangwayref05_Check.f a0_0 a0_1 a0_2 a0_3 a0_4).bind fun t229 => (if t228 = t229 then (if (t213 == t220 && (t214 == t221 && (t215 == t222 && (t216 == t223 && (t217 == t224))))) = true then (some (t218 == t225)) else (none)) else (none)))) else (none)) else (none)) = some r := by rw [if_pos rfl] at H; exact H
        clear H
        have H := H1
        clear H1
        by_cases c14 : t209.toList = t211.toList
        · rw [if_pos c14] at H
          have c14b0 : (t209.toList == t211.toList) = true := beq_iff_eq.mpr c14
          have c14b1 : (t209.toList != t211.toList) = false := bne_eq_false_iff_eq.mpr c14
          clear c14
          by_cases c15 : t210 = t212
          · rw [if_pos c15] at H
            have c15b0 : (t210 == t212) = true := beq_iff_eq.mpr c15
            have c15b1 : (t210 != t212) = false := bne_eq_false_iff_eq.mpr c15
            clear c15
            replace H := Option.bind_eq_some_iff.mp H
            obtain ⟨t228, A160, H⟩ := H
            replace H : ((gangwayref05_Check.f a0_0 a0_1 a0_2 a0_3 a0_4).bind fun t229 => (if t228 = t229 then (if (t213 == t220 && (t214 == t221 && (t215 == t222 && (t216 == t223 && (t217 == t224))))) = true then (some (t218 == t225)) else (none)) else (none))) = some r := H
            have A16 := Aside0.mk A160
            clear A160
            replace H := Option.bind_eq_some_iff.mp H
            obtain ⟨t229, A170, H⟩ := H
            replace H : (if t228 = t229 then (if (t213 == t220 && (t214 == t221 && (t215 == t222 && (t216 == t223 && (t217 == t224))))) = true then (some (t218 == t225)) else (none)) else (none)) = some r := H
            have A17 := Aside0.mk A170
            clear A170
            by_cases c18 : t228 = t229
            · rw [if_pos c18] at H
              have c18b0 : (t228 == t229) = true := beq_iff_eq.mpr c18
              have c18b1 : (t228 != t229) = false := bne_eq_false_iff_eq.mpr c18
              clear c18
              by_cases c19 : (t213 == t220 && (t214 == t221 && (t215 == t222 && (t216 == t223 && (t217 == t224))))) = true
              · rw [if_pos c19] at H
                have c19b0 : (t213 == t220 && (t214 == t221 && (t215 == t222 && (t216 == t223 && (t217 == t224))))) = true := c19
                (try (have c19b1 : decide (t213 = t220 && (t214 == t221 && (t215 == t222 && (t216 == t223 && (t217 == t224))))) = true := by simpa using c19))
                (try (have c19b2 : (t213 == t220 && (t214 == t221 && (t215 == t222 && (t216 == t223 && (t217 == t224))))) = true := by simpa using c19))
                clear c19
                obtain rfl := Option.some.inj H
                have hcz20_0 : wc.cell? ⟨gb208, 0, none⟩ = some (.int .i64 a0_0) := (blk_cell BK208.out 0).trans rfl
                have hcz20_1 : wc.cell? ⟨gb208, 1, none⟩ = some (.int .u64 a0_1) := (blk_cell BK208.out 1).trans rfl
                have hcz20_2 : wc.cell? ⟨gb208, 2, none⟩ = some (.int .u32 a0_2) := (blk_cell BK208.out 2).trans rfl
                have hcz20_3 : wc.cell? ⟨gb208, 3, none⟩ = some (.int .u64 a0_3) := (blk_cell BK208.out 3).trans rfl
                have hcz20_4 : wc.cell? ⟨gb208, 4, none⟩ = some (.int .u32 a0_4) := (blk_cell BK208.out 4).trans rfl
                have hfz20_0 := blk_frozen BK208.out 0
                have hfz20_1 := blk_frozen BK208.out 1
                have hfz20_2 := blk_frozen BK208.out 2
                have hfz20_3 := blk_frozen BK208.out 3
                have hfz20_4 := blk_frozen BK208.out 4
                try go_wp2_with (first | ((with_reducible refine gate_callee (f := 7) rfl ?_); refine goesL_ (some 20) rfl rfl Tryd.func7 (by kernel_rfl) rfl #[.agg #[.int .i64 a0_0, .int .u64 a0_1, .int .u32 a0_2, .int .u64 a0_3, .int .u32 a0_4]] rfl (by (try simp only [List.map_toArray, List.map_cons, List.map_nil]); first | done | rfl | (simp only [List.length_drop, List.length_take]; rfl)) ?_; (with_reducible refine (arp_Build.calls kj2 a0_0 a0_1 a0_2 a0_3 a0_4 t209 t210 _ A8.out).mono ?_); rintro e w21 ⟨rfl, hb⟩; refine ⟨_, rfl, ?_⟩; have n0_ := Aside0.mk (blk_below (g := gb208) (o := .cells #[.int .i64 a0_0, .int .u64 a0_1, .int .u32 a0_2, .int .u64 a0_3, .int .u32 a0_4] 25 (0, 0)) (by (with_reducible repeat (first | refine blk_drewN ?_ _ | refine blk_drew ?_ | refine blk_alloc ?_ _)); exact BK208.out) hb); have n1_ := Aside0.mk (below_step (by repeat (first | (with_reducible first | exact HB.out | apply below_alloc | apply pw_below_drewN | apply below_drew1 | refine below_set ?_ GE208.out) | exact HB.out)) hb); clear BK208; clear HB; have BK208 := n0_; have HB := n1_; clear n0_ n1_; have hcy1_208_0 := (show World.cell? _ ⟨gb208, 0, none⟩ = some (.int .i64 a0_0) from (blk_cell BK208.out 0).trans rfl); have hcy1_208_1 := (show World.cell? _ ⟨gb208, 1, none⟩ = some (.int .u64 a0_1) from (blk_cell BK208.out 1).trans rfl); have hcy1_208_2 := (show World.cell? _ ⟨gb208, 2, none⟩ = some (.int .u32 a0_2) from (blk_cell BK208.out 2).trans rfl); have hcy1_208_3 := (show World.cell? _ ⟨gb208, 3, none⟩ = some (.int .u64 a0_3) from (blk_cell BK208.out 3).trans rfl); have hcy1_208_4 := (show World.cell? _ ⟨gb208, 4, none⟩ = some (.int .u32 a0_4) from (blk_cell BK208.out 4).trans rfl); (try clear hb); (try clear hb2); (try clear hk); (try clear hi); have hcz22_0 : w21.cell? ⟨gb208, 0, none⟩ = some (.int .i64 a0_0) := (blk_cell BK208.out 0).trans rfl; have hcz22_1 : w21.cell? ⟨gb208, 1, none⟩ = some (.int .u64 a0_1) := (blk_cell BK208.out 1).trans rfl; have hcz22_2 : w21.cell? ⟨gb208, 2, none⟩ = some (.int .u32 a0_2) := (blk_cell BK208.out 2).trans rfl; have hcz22_3 : w21.cell? ⟨gb208, 3, none⟩ = some (.int .u64 a0_3) := (blk_cell BK208.out 3).trans rfl; have hcz22_4 : w21.cell? ⟨gb208, 4, none⟩ = some (.int .u32 a0_4) := (blk_cell BK208.out 4).trans rfl; have hfz22_0 := blk_frozen BK208.out 0; have hfz22_1 := blk_frozen BK208.out 1; have hfz22_2 := blk_frozen BK208.out 2; have hfz22_3 := blk_frozen BK208.out 3; have hfz22_4 := blk_frozen BK208.out 4) | ((with_reducible refine gate_callee (f := 8) rfl ?_); refine goesL_ (some 25) rfl rfl Tryd.func8 (by kernel_rfl) rfl #[.agg #[.int .i64 a0_0, .int .u64 a0_1, .int .u32 a0_2, .int .u64 a0_3, .int .u32 a0_4]] rfl (by (try simp only [List.map_toArray, List.map_cons, List.map_nil]); first | done | rfl | (simp only [List.length_drop, List.length_take]; rfl)) ?_; (with_reducible refine (gangwayref05_Build.calls kj2 a0_0 a0_1 a0_2 a0_3 a0_4 t211 t212 _ A9.out).mono ?_); rintro e w23 ⟨rfl, hb⟩; refine ⟨_, rfl, ?_⟩; have n0_ := Aside0.mk (blk_below (g := gb208) (o := .cells #[.int .i64 a0_0, .int .u64 a0_1, .int .u32 a0_2, .int .u64 a0_3, .int .u32 a0_4] 25 (0, 0)) (by (with_reducible repeat (first | refine blk_drewN ?_ _ | refine blk_drew ?_ | refine blk_alloc ?_ _)); exact BK208.out) hb); have n1_ := Aside0.mk (below_step (by repeat (first | (with_reducible first | exact HB.out | apply below_alloc | apply pw_below_drewN | apply below_drew1 | refine below_set ?_ GE208.out) | exact HB.out)) hb); clear BK208; clear HB; have BK208 := n0_; have HB := n1_; clear n0_ n1_; have hcy2_208_0 := (show World.cell? _ ⟨gb208, 0, none⟩ = some (.int .i64 a0_0) from (blk_cell BK208.out 0).trans rfl); have hcy2_208_1 := (show World.cell? _ ⟨gb208, 1, none⟩ = some (.int .u64 a0_1) from (blk_cell BK208.out 1).trans rfl); have hcy2_208_2 := (show World.cell? _ ⟨gb208, 2, none⟩ = some (.int .u32 a0_2) from (blk_cell BK208.out 2).trans rfl); have hcy2_208_3 := (show World.cell? _ ⟨gb208, 3, none⟩ = some (.int .u64 a0_3) from (blk_cell BK208.out 3).trans rfl); have hcy2_208_4 := (show World.cell? _ ⟨gb208, 4, none⟩ = some (.int .u32 a0_4) from (blk_cell BK208.out 4).trans rfl); (try clear hb); (try clear hb2); (try clear hk); (try clear hi)) | ((with_reducible refine gate_callee (f := 9) rfl ?_); refine goesL_ (some 30) rfl rfl Tryd.func9 (by kernel_rfl) rfl #[.string x1_2] rfl (by (try simp only [List.map_toArray, List.map_cons, List.map_nil]); first | done | rfl | (simp only [List.length_drop, List.length_take]; rfl)) ?_; (with_reducible refine (arp_Parse.calls kj2 x1_2 t213 t214 t215 t216 t217 t218 _ A10.out).mono ?_); rintro e w24 ⟨rfl, hb⟩; refine ⟨_, rfl, ?_⟩; have n0_ := Aside0.mk (blk_below (g := gb208) (o := .cells #[.int .i64 a0_0, .int .u64 a0_1, .int .u32 a0_2, .int .u64 a0_3, .int .u32 a0_4] 25 (0, 0)) (by (with_reducible repeat (first | refine blk_drewN ?_ _ | refine blk_drew ?_ | refine blk_alloc ?_ _)); exact BK208.out) hb); have n1_ := Aside0.mk (below_step (by repeat (first | (with_reducible first | exact HB.out | apply below_alloc | apply pw_below_drewN | apply below_drew1 | refine below_set ?_ GE208.out) | exact HB.out)) hb); clear BK208; clear HB; have BK208 := n0_; have HB := n1_; clear n0_ n1_; have hcy3_208_0 := (show World.cell? _ ⟨gb208, 0, none⟩ = some (.int .i64 a0_0) from (blk_cell BK208.out 0).trans rfl); have hcy3_208_1 := (show World.cell? _ ⟨gb208, 1, none⟩ = some (.int .u64 a0_1) from (blk_cell BK208.out 1).trans rfl); have hcy3_208_2 := (show World.cell? _ ⟨gb208, 2, none⟩ = some (.int .u32 a0_2) from (blk_cell BK208.out 2).trans rfl); have hcy3_208_3 := (show World.cell? _ ⟨gb208, 3, none⟩ = some (.int .u64 a0_3) from (blk_cell BK208.out 3).trans rfl); have hcy3_208_4 := (show World.cell? _ ⟨gb208, 4, none⟩ = some (.int .u32 a0_4) from (blk_cell BK208.out 4).trans rfl); (try clear hb); (try clear hb2); (try clear hk); (try clear hi)) | ((with_reducible refine gate_dst (N := 9) rfl ?_); refine box_event ?hg (N := 9) ?hd (cs := #[.int .i64 0, .int .u64 0, .int .u32 0, .int .u64 0, .int .u32 0]) (t := 25) ?hr ?_; (case hd => rfl); (case hg => rfl); (case hr => first | (go_simp; done) | (go_simp; rfl)); intro gb219 hg w25 hbox hb; have n0_ := Aside0.mk (blk_below (g := gb208) (o := .cells #[.int .i64 a0_0, .int .u64 a0_1, .int .u32 a0_2, .int .u64 a0_3, .int .u32 a0_4] 25 (0, 0)) (by (with_reducible repeat (first | refine blk_drewN ?_ _ | refine blk_drew ?_ | refine blk_alloc ?_ _)); exact BK208.out) hb); have n1_ := Aside0.mk (below_step (by repeat (first | (with_reducible first | exact HB.out | apply below_alloc | apply pw_below_drewN | apply below_drew1 | refine below_set ?_ GE208.out) | exact HB.out)) hb); have n2_ := Aside0.mk (hbox); have n3_ := Aside0.mk ((by rw [hg]; exact (below_size (by repeat (first | (with_reducible first | exact HB.out | apply below_alloc | apply pw_below_drewN | apply below_drew1 | refine below_set ?_ GE208.out) | exact HB.out))) : w.heap.size ≤ gb219)); have n4_ := Aside0.mk ((by rw [hg]; exact (below_size (by repeat (first | (with_reducible first | exact HB.out | apply below_alloc | apply pw_below_drewN | apply below_drew1 | refine below_set ?_ GE208.out) | exact HB.out))) : w.heap.size ≤ gb219)); have n5_ := Aside0.mk ((by rw [hg]; exact Nat.ne_of_lt (blk_lt (g := gb208) (o := .cells #[.int .i64 a0_0, .int .u64 a0_1, .int .u32 a0_2, .int .u64 a0_3, .int .u32 a0_4] 25 (0, 0)) (by (with_reducible repeat (first | refine blk_drewN ?_ _ | refine blk_drew ?_ | refine blk_alloc ?_ _)); exact BK208.out)) : gb208 ≠ gb219)); have n6_ := Aside0.mk ((by rw [hg]; exact Nat.ne_of_gt (blk_lt (g := gb208) (o := .cells #[.int .i64 a0_0, .int .u64 a0_1, .int .u32 a0_2, .int .u64 a0_3, .int .u32 a0_4] 25 (0, 0)) (by (with_reducible repeat (first | refine blk_drewN ?_ _ | refine blk_drew ?_ | refine blk_alloc ?_ _)); exact BK208.out)) : gb219 ≠ gb208)); clear BK208; clear HB; have BK208 := n0_; have HB := n1_; have BK219 := n2_; have GW219 := n3_; have GE219 := n4_; have NB208_219 := n5_; have NB219_208 := n6_; clear n0_ n1_ n2_ n3_ n4_ n5_ n6_; have hcy4_208_0 := (show World.cell? _ ⟨gb208, 0, none⟩ = some (.int .i64 a0_0) from (blk_cell BK208.out 0).trans rfl); have hcy4_208_1 := (show World.cell? _ ⟨gb208, 1, none⟩ = some (.int .u64 a0_1) from (blk_cell BK208.out 1).trans rfl); have hcy4_208_2 := (show World.cell? _ ⟨gb208, 2, none⟩ = some (.int .u32 a0_2) from (blk_cell BK208.out 2).trans rfl); have hcy4_208_3 := (show World.cell? _ ⟨gb208, 3, none⟩ = some (.int .u64 a0_3) from (blk_cell BK208.out 3).trans rfl); have hcy4_208_4 := (show World.cell? _ ⟨gb208, 4, none⟩ = some (.int .u32 a0_4) from (blk_cell BK208.out 4).trans rfl); clear hb hbox hg; have hnb26 := NB219_208.out; have hnc26 := NB208_219.out; have hcz27_0 : w25.cell? ⟨gb219, 0, none⟩ = some (.int .i64 0) := (blk_cell BK219.out 0).trans rfl; have hcz27_1 : w25.cell? ⟨gb219, 1, none⟩ = some (.int .u64 0) := (blk_cell BK219.out 1).trans rfl; have hcz27_2 : w25.cell? ⟨gb219, 2, none⟩ = some (.int .u32 0) := (blk_cell BK219.out 2).trans rfl; have hcz27_3 : w25.cell? ⟨gb219, 3, none⟩ = some (.int .u64 0) := (blk_cell BK219.out 3).trans rfl; have hcz27_4 : w25.cell? ⟨gb219, 4, none⟩ = some (.int .u32 0) := (blk_cell BK219.out 4).trans rfl; have hfz27_0 := blk_frozen BK219.out 0; have hfz27_1 := blk_frozen BK219.out 1; have hfz27_2 := blk_frozen BK219.out 2; have hfz27_3 := blk_frozen BK219.out 3; have hfz27_4 := blk_frozen BK219.out 4) | (obtain ⟨w25f, hgw_⟩ : ∃ y, y = (World.setCell (World.setCell (World.setCell (World.setCell w25 ⟨gb219, 0, none⟩ (.int .i64 t213)) ⟨gb219, 1, none⟩ (.int .u64 t214)) ⟨gb219, 2, none⟩ (.int .u32 t215)) ⟨gb219, 3, none⟩ (.int .u64 t216)) := ⟨_, rfl⟩; rw [← hgw_]; have m0_ := Aside0.mk (show w25f.heap[gb208]? = some (.cells #[.int .i64 a0_0, .int .u64 a0_1, .int .u32 a0_2, .int .u64 a0_3, .int .u32 a0_4] 25 (0, 0)) from (by rw [hgw_]; refine blk_far ?_ NB208_219.out _; (with_reducible repeat (first | refine blk_drewN ?_ _ | refine blk_drew ?_ | refine blk_alloc ?_ _)); refine blk_far ?_ NB208_219.out _; (with_reducible repeat (first | refine blk_drewN ?_ _ | refine blk_drew ?_ | refine blk_alloc ?_ _)); refine blk_far ?_ NB208_219.out _; (with_reducible repeat (first | refine blk_drewN ?_ _ | refine blk_drew ?_ | refine blk_alloc ?_ _)); refine blk_far ?_ NB208_219.out _; (with_reducible repeat (first | refine blk_drewN ?_ _ | refine blk_drew ?_ | refine blk_alloc ?_ _)); exact BK208.out)); have m1_ := Aside0.mk (show w25f.heap[gb219]? = some (.cells #[.int .i64 t213, .int .u64 t214, .int .u32 t215, .int .u64 t216, .int .u32 0] 25 (0, 0)) from (by rw [hgw_]; refine blk_put (cs := #[.int .i64 t213, .int .u64 t214, .int .u32 t215, .int .u64 0, .int .u32 0]) ?_ 3 _ rfl; (with_reducible repeat (first | refine blk_drewN ?_ _ | refine blk_drew ?_ | refine blk_alloc ?_ _)); refine blk_put (cs := #[.int .i64 t213, .int .u64 t214, .int .u32 0, .int .u64 0, .int .u32 0]) ?_ 2 _ rfl; (with_reducible repeat (first | refine blk_drewN ?_ _ | refine blk_drew ?_ | refine blk_alloc ?_ _)); refine blk_put (cs := #[.int .i64 t213, .int .u64 0, .int .u32 0, .int .u64 0, .int .u32 0]) ?_ 1 _ rfl; (with_reducible repeat (first | refine blk_drewN ?_ _ | refine blk_drew ?_ | refine blk_alloc ?_ _)); refine blk_put (cs := #[.int .i64 0, .int .u64 0, .int .u32 0, .int .u64 0, .int .u32 0]) ?_ 0 _ rfl; (with_reducible repeat (first | refine blk_drewN ?_ _ | refine blk_drew ?_ | refine blk_alloc ?_ _)); exact BK219.out)); have mb_ := Aside0.mk (show Below w.heap.size w w25f from (by rw [hgw_]; exact (by repeat (first | (with_reducible first | exact HB.out | apply below_alloc | apply pw_below_drewN | apply below_drew1 | refine below_set ?_ GE208.out | refine below_set ?_ GE219.out) | exact HB.out)))); clear BK208; have BK208 := m0_; clear m0_; clear BK219; have BK219 := m1_; clear m1_; clear HB; have HB := mb_; clear mb_; clear hgw_; have hcf208_0 : w25f.cell? ⟨gb208, 0, none⟩ = some (.int .i64 a0_0) := (blk_cell BK208.out 0).trans rfl; have hcf208_1 : w25f.cell? ⟨gb208, 1, none⟩ = some (.int .u64 a0_1) := (blk_cell BK208.out 1).trans rfl; have hcf208_2 : w25f.cell? ⟨gb208, 2, none⟩ = some (.int .u32 a0_2) := (blk_cell BK208.out 2).trans rfl; have hcf208_3 : w25f.cell? ⟨gb208, 3, none⟩ = some (.int .u64 a0_3) := (blk_cell BK208.out 3).trans rfl; have hcf208_4 : w25f.cell? ⟨gb208, 4, none⟩ = some (.int .u32 a0_4) := (blk_cell BK208.out 4).trans rfl; have hff208_0 := blk_frozen BK208.out 0; have hff208_1 := blk_frozen BK208.out 1; have hff208_2 := blk_frozen BK208.out 2; have hff208_3 := blk_frozen BK208.out 3; have hff208_4 := blk_frozen BK208.out 4; have hcf219_0 : w25f.cell? ⟨gb219, 0, none⟩ = some (.int .i64 t213) := (blk_cell BK219.out 0).trans rfl; have hcf219_1 : w25f.cell? ⟨gb219, 1, none⟩ = some (.int .u64 t214) := (blk_cell BK219.out 1).trans rfl; have hcf219_2 : w25f.cell? ⟨gb219, 2, none⟩ = some (.int .u32 t215) := (blk_cell BK219.out 2).trans rfl; have hcf219_3 : w25f.cell? ⟨gb219, 3, none⟩ = some (.int .u64 t216) := (blk_cell BK219.out 3).trans rfl; have hcf219_4 : w25f.cell? ⟨gb219, 4, none⟩ = some (.int .u32 0) := (blk_cell BK219.out 4).trans rfl; have hff219_0 := blk_frozen BK219.out 0; have hff219_1 := blk_frozen BK219.out 1; have hff219_2 := blk_frozen BK219.out 2; have hff219_3 := blk_frozen BK219.out 3; have hff219_4 := blk_frozen BK219.out 4) | ((with_reducible refine gate_callee (f := 10) rfl ?_); refine goesL_ (some 35) rfl rfl Tryd.func10 (by kernel_rfl) rfl #[.string x1_2] rfl (by (try simp only [List.map_toArray, List.map_cons, List.map_nil]); first | done | rfl | (simp only [List.length_drop, List.length_take]; rfl)) ?_; (with_reducible refine (gangwayref05_Parse.calls kj2 x1_2 t220 t221 t222 t223 t224 t225 _ A11.out).mono ?_); rintro e w28 ⟨rfl, hb⟩; refine ⟨_, rfl, ?_⟩; have n0_ := Aside0.mk (blk_below (g := gb208) (o := .cells #[.int .i64 a0_0, .int .u64 a0_1, .int .u32 a0_2, .int .u64 a0_3, .int .u32 a0_4] 25 (0, 0)) (by (with_reducible repeat (first | refine blk_drewN ?_ _ | refine blk_drew ?_ | refine blk_alloc ?_ _)); refine blk_far ?_ NB208_219.out _; (with_reducible repeat (first | refine blk_drewN ?_ _ | refine blk_drew ?_ | refine blk_alloc ?_ _)); exact BK208.out) hb); have n1_ := Aside0.mk (blk_below (g := gb219) (o := .cells #[.int .i64 t213, .int .u64 t214, .int .u32 t215, .int .u64 t216, .int .u32 t217] 25 (0, 0)) (by (with_reducible repeat (first | refine blk_drewN ?_ _ | refine blk_drew ?_ | refine blk_alloc ?_ _)); refine blk_put (cs := #[.int .i64 t213, .int .u64 t214, .int .u32 t215, .int .u64 t216, .int .u32 0]) ?_ 4 _ rfl; (with_reducible repeat (first | refine blk_drewN ?_ _ | refine blk_drew ?_ | refine blk_alloc ?_ _)); exact BK219.out) hb); have n2_ := Aside0.mk (below_step (by repeat (first | (with_reducible first | exact HB.out | apply below_alloc | apply pw_below_drewN | apply below_drew1 | refine below_set ?_ GE208.out | refine below_set ?_ GE219.out) | exact HB.out)) hb); clear BK208; clear BK219; clear HB; have BK208 := n0_; have BK219 := n1_; have HB := n2_; clear n0_ n1_ n2_; have hcy5_208_0 := (show World.cell? _ ⟨gb208, 0, none⟩ = some (.int .i64 a0_0) from (blk_cell BK208.out 0).trans rfl); have hcy5_208_1 := (show World.cell? _ ⟨gb208, 1, none⟩ = some (.int .u64 a0_1) from (blk_cell BK208.out 1).trans rfl); have hcy5_208_2 := (show World.cell? _ ⟨gb208, 2, none⟩ = some (.int .u32 a0_2) from (blk_cell BK208.out 2).trans rfl); have hcy5_208_3 := (show World.cell? _ ⟨gb208, 3, none⟩ = some (.int .u64 a0_3) from (blk_cell BK208.out 3).trans rfl); have hcy5_208_4 := (show World.cell? _ ⟨gb208, 4, none⟩ = some (.int .u32 a0_4) from (blk_cell BK208.out 4).trans rfl); (try clear hb); (try clear hb2); (try clear hk); (try clear hi)) | ((with_reducible refine gate_dst (N := 11) rfl ?_); refine box_event ?hg (N := 11) ?hd (cs := #[.int .i64 0, .int .u64 0, .int .u32 0, .int .u64 0, .int .u32 0]) (t := 25) ?hr ?_; (case hd => rfl); (case hg => rfl); (case hr => first | (go_simp; done) | (go_simp; rfl)); intro gb226 hg w29 hbox hb; have n0_ := Aside0.mk (blk_below (g := gb208) (o := .cells #[.int .i64 a0_0, .int .u64 a0_1, .int .u32 a0_2, .int .u64 a0_3, .int .u32 a0_4] 25 (0, 0)) (by (with_reducible repeat (first | refine blk_drewN ?_ _ | refine blk_drew ?_ | refine blk_alloc ?_ _)); exact BK208.out) hb); have n1_ := Aside0.mk (blk_below (g := gb219) (o := .cells #[.int .i64 t213, .int .u64 t214, .int .u32 t215, .int .u64 t216, .int .u32 t217] 25 (0, 0)) (by (with_reducible repeat (first | refine blk_drewN ?_ _ | refine blk_drew ?_ | refine blk_alloc ?_ _)); exact BK219.out) hb); have n2_ := Aside0.mk (below_step (by repeat (first | (with_reducible first | exact HB.out | apply below_alloc | apply pw_below_drewN | apply below_drew1 | refine below_set ?_ GE208.out | refine below_set ?_ GE219.out) | exact HB.out)) hb); have n3_ := Aside0.mk (hbox); have n4_ := Aside0.mk ((by rw [hg]; exact (below_size (by repeat (first | (with_reducible first | exact HB.out | apply below_alloc | apply pw_below_drewN | apply below_drew1 | refine below_set ?_ GE208.out | refine below_set ?_ GE219.out) | exact HB.out))) : w.heap.size ≤ gb226)); have n5_ := Aside0.mk ((by rw [hg]; exact (below_size (by repeat (first | (with_reducible first | exact HB.out | apply below_alloc | apply pw_below_drewN | apply below_drew1 | refine below_set ?_ GE208.out | refine below_set ?_ GE219.out) | exact HB.out))) : w.heap.size ≤ gb226)); have n6_ := Aside0.mk ((by rw [hg]; exact Nat.ne_of_lt (blk_lt (g := gb208) (o := .cells #[.int .i64 a0_0, .int .u64 a0_1, .int .u32 a0_2, .int .u64 a0_3, .int .u32 a0_4] 25 (0, 0)) (by (with_reducible repeat (first | refine blk_drewN ?_ _ | refine blk_drew ?_ | refine blk_alloc ?_ _)); exact BK208.out)) : gb208 ≠ gb226)); have n7_ := Aside0.mk ((by rw [hg]; exact Nat.ne_of_gt (blk_lt (g := gb208) (o := .cells #[.int .i64 a0_0, .int .u64 a0_1, .int .u32 a0_2, .int .u64 a0_3, .int .u32 a0_4] 25 (0, 0)) (by (with_reducible repeat (first | refine blk_drewN ?_ _ | refine blk_drew ?_ | refine blk_alloc ?_ _)); exact BK208.out)) : gb226 ≠ gb208)); have n8_ := Aside0.mk ((by rw [hg]; exact Nat.ne_of_lt (blk_lt (g := gb219) (o := .cells #[.int .i64 t213, .int .u64 t214, .int .u32 t215, .int .u64 t216, .int .u32 t217] 25 (0, 0)) (by (with_reducible repeat (first | refine blk_drewN ?_ _ | refine blk_drew ?_ | refine blk_alloc ?_ _)); exact BK219.out)) : gb219 ≠ gb226)); have n9_ := Aside0.mk ((by rw [hg]; exact Nat.ne_of_gt (blk_lt (g := gb219) (o := .cells #[.int .i64 t213, .int .u64 t214, .int .u32 t215, .int .u64 t216, .int .u32 t217] 25 (0, 0)) (by (with_reducible repeat (first | refine blk_drewN ?_ _ | refine blk_drew ?_ | refine blk_alloc ?_ _)); exact BK219.out)) : gb226 ≠ gb219)); clear BK208; clear BK219; clear HB; have BK208 := n0_; have BK219 := n1_; have HB := n2_; have BK226 := n3_; have GW226 := n4_; have GE226 := n5_; have NB208_226 := n6_; have NB226_208 := n7_; have NB219_226 := n8_; have NB226_219 := n9_; clear n0_ n1_ n2_ n3_ n4_ n5_ n6_ n7_ n8_ n9_; have hcy6_208_0 := (show World.cell? _ ⟨gb208, 0, none⟩ = some (.int .i64 a0_0) from (blk_cell BK208.out 0).trans rfl); have hcy6_208_1 := (show World.cell? _ ⟨gb208, 1, none⟩ = some (.int .u64 a0_1) from (blk_cell BK208.out 1).trans rfl); have hcy6_208_2 := (show World.cell? _ ⟨gb208, 2, none⟩ = some (.int .u32 a0_2) from (blk_cell BK208.out 2).trans rfl); have hcy6_208_3 := (show World.cell? _ ⟨gb208, 3, none⟩ = some (.int .u64 a0_3) from (blk_cell BK208.out 3).trans rfl); have hcy6_208_4 := (show World.cell? _ ⟨gb208, 4, none⟩ = some (.int .u32 a0_4) from (blk_cell BK208.out 4).trans rfl); clear hb hbox hg; have hnb30 := NB226_208.out; have hnc30 := NB208_226.out; have hnb31 := NB226_219.out; have hnc31 := NB219_226.out; have hcz32_0 : w29.cell? ⟨gb226, 0, none⟩ = some (.int .i64 0) := (blk_cell BK226.out 0).trans rfl; have hcz32_1 : w29.cell? ⟨gb226, 1, none⟩ = some (.int .u64 0) := (blk_cell BK226.out 1).trans rfl; have hcz32_2 : w29.cell? ⟨gb226, 2, none⟩ = some (.int .u32 0) := (blk_cell BK226.out 2).trans rfl; have hcz32_3 : w29.cell? ⟨gb226, 3, none⟩ = some (.int .u64 0) := (blk_cell BK226.out 3).trans rfl; have hcz32_4 : w29.cell? ⟨gb226, 4, none⟩ = some (.int .u32 0) := (blk_cell BK226.out 4).trans rfl; have hfz32_0 := blk_frozen BK226.out 0; have hfz32_1 := blk_frozen BK226.out 1; have hfz32_2 := blk_frozen BK226.out 2; have hfz32_3 := blk_frozen BK226.out 3; have hfz32_4 := blk_frozen BK226.out 4))
                have n0_ : Aside0 ((((((w29.setCell ⟨gb226, 0, none⟩ (.int .i64 t220)).setCell ⟨gb226, 1, none⟩ (.int .u64 t221)).setCell ⟨gb226, 2, none⟩ (.int .u32 t222)).setCell ⟨gb226, 3, none⟩ (.int .u64 t223)).setCell ⟨gb226, 4, none⟩ (.int .u32 t224)).heap[gb208]? = some (.cells #[.int .i64 a0_0, .int .u64 a0_1, .int .u32 a0_2, .int .u64 a0_3, .int .u32 a0_4] 25 (0, 0))) := ⟨by (with_reducible repeat (first | refine blk_drewN ?_ _ | refine blk_drew ?_ | refine blk_alloc ?_ _)); refine blk_far ?_ NB208_226.out _; (with_reducible repeat (first | refine blk_drewN ?_ _ | refine blk_drew ?_ | refine blk_alloc ?_ _)); refine blk_far ?_ NB208_226.out _; (with_reducible repeat (first | refine blk_drewN ?_ _ | refine blk_drew ?_ | refine blk_alloc ?_ _)); refine blk_far ?_ NB208_226.out _; (with_reducible repeat (first | refine blk_drewN ?_ _ | refine blk_drew ?_ | refine blk_alloc ?_ _)); refine blk_far ?_ NB208_226.out _; (with_reducible repeat (first | refine blk_drewN ?_ _ | refine blk_drew ?_ | refine blk_alloc ?_ _)); refine blk_far ?_ NB208_226.out _; (with_reducible repeat (first | refine blk_drewN ?_ _ | refine blk_drew ?_ | refine blk_alloc ?_ _)); exact BK208.out⟩
                have n1_ : Aside0 ((((((w29.setCell ⟨gb226, 0, none⟩ (.int .i64 t220)).setCell ⟨gb226, 1, none⟩ (.int .u64 t221)).setCell ⟨gb226, 2, none⟩ (.int .u32 t222)).setCell ⟨gb226, 3, none⟩ (.int .u64 t223)).setCell ⟨gb226, 4, none⟩ (.int .u32 t224)).heap[gb219]? = some (.cells #[.int .i64 t213, .int .u64 t214, .int .u32 t215, .int .u64 t216, .int .u32 t217] 25 (0, 0))) := ⟨by (with_reducible repeat (first | refine blk_drewN ?_ _ | refine blk_drew ?_ | refine blk_alloc ?_ _)); refine blk_far ?_ NB219_226.out _; (with_reducible repeat (first | refine blk_drewN ?_ _ | refine blk_drew ?_ | refine blk_alloc ?_ _)); refine blk_far ?_ NB219_226.out _; (with_reducible repeat (first | refine blk_drewN ?_ _ | refine blk_drew ?_ | refine blk_alloc ?_ _)); refine blk_far ?_ NB219_226.out _; (with_reducible repeat (first | refine blk_drewN ?_ _ | refine blk_drew ?_ | refine blk_alloc ?_ _)); refine blk_far ?_ NB219_226.out _; (with_reducible repeat (first | refine blk_drewN ?_ _ | refine blk_drew ?_ | refine blk_alloc ?_ _)); refine blk_far ?_ NB219_226.out _; (with_reducible repeat (first | refine blk_drewN ?_ _ | refine blk_drew ?_ | refine blk_alloc ?_ _)); exact BK219.out⟩
                have n2_ : Aside0 ((((((w29.setCell ⟨gb226, 0, none⟩ (.int .i64 t220)).setCell ⟨gb226, 1, none⟩ (.int .u64 t221)).setCell ⟨gb226, 2, none⟩ (.int .u32 t222)).setCell ⟨gb226, 3, none⟩ (.int .u64 t223)).setCell ⟨gb226, 4, none⟩ (.int .u32 t224)).heap[gb226]? = some (.cells #[.int .i64 t220, .int .u64 t221, .int .u32 t222, .int .u64 t223, .int .u32 t224] 25 (0, 0))) := ⟨by (with_reducible repeat (first | refine blk_drewN ?_ _ | refine blk_drew ?_ | refine blk_alloc ?_ _)); refine blk_put (cs := #[.int .i64 t220, .int .u64 t221, .int .u32 t222, .int .u64 t223, .int .u32 0]) ?_ 4 _ rfl; (with_reducible repeat (first | refine blk_drewN ?_ _ | refine blk_drew ?_ | refine blk_alloc ?_ _)); refine blk_put (cs := #[.int .i64 t220, .int .u64 t221, .int .u32 t222, .int .u64 0, .int .u32 0]) ?_ 3 _ rfl; (with_reducible repeat (first | refine blk_drewN ?_ _ | refine blk_drew ?_ | refine blk_alloc ?_ _)); refine blk_put (cs := #[.int .i64 t220, .int .u64 t221, .int .u32 0, .int .u64 0, .int .u32 0]) ?_ 2 _ rfl; (with_reducible repeat (first | refine blk_drewN ?_ _ | refine blk_drew ?_ | refine blk_alloc ?_ _)); refine blk_put (cs := #[.int .i64 t220, .int .u64 0, .int .u32 0, .int .u64 0, .int .u32 0]) ?_ 1 _ rfl; (with_reducible repeat (first | refine blk_drewN ?_ _ | refine blk_drew ?_ | refine blk_alloc ?_ _)); refine blk_put (cs := #[.int .i64 0, .int .u64 0, .int .u32 0, .int .u64 0, .int .u32 0]) ?_ 0 _ rfl; (with_reducible repeat (first | refine blk_drewN ?_ _ | refine blk_drew ?_ | refine blk_alloc ?_ _)); exact BK226.out⟩
                have n3_ : Aside0 (Below w.heap.size w (((((w29.setCell ⟨gb226, 0, none⟩ (.int .i64 t220)).setCell ⟨gb226, 1, none⟩ (.int .u64 t221)).setCell ⟨gb226, 2, none⟩ (.int .u32 t222)).setCell ⟨gb226, 3, none⟩ (.int .u64 t223)).setCell ⟨gb226, 4, none⟩ (.int .u32 t224))) := ⟨by repeat (first | (with_reducible first | exact HB.out | apply below_alloc | apply pw_below_drewN | apply below_drew1 | refine below_set ?_ GE208.out | refine below_set ?_ GE219.out | refine below_set ?_ GE226.out) | exact HB.out)⟩
                (try clear BK208)
                (try clear BK219)
                (try clear BK226)
                (try clear HB)
                generalize (((((w29.setCell ⟨gb226, 0, none⟩ (.int .i64 t220)).setCell ⟨gb226, 1, none⟩ (.int .u64 t221)).setCell ⟨gb226, 2, none⟩ (.int .u32 t222)).setCell ⟨gb226, 3, none⟩ (.int .u64 t223)).setCell ⟨gb226, 4, none⟩ (.int .u32 t224)) = w33 at n0_ n1_ n2_ n3_ ⊢
                have BK208 := n0_
                have BK219 := n1_
                have BK226 := n2_
                have HB := n3_
                clear n0_ n1_ n2_ n3_
                have n0_ := Aside0.mk (blk_drew BK208.out)
                have n1_ := Aside0.mk (blk_drew BK219.out)
                have n2_ := Aside0.mk (blk_drew BK226.out)
                have n3_ := Aside0.mk (below_drew1 HB.out)
                clear BK208
                clear BK219
                clear BK226
                clear HB
                have BK208 := n0_
                have BK219 := n1_
                have BK226 := n2_
                have HB := n3_
                clear n0_ n1_ n2_ n3_
                refine start_ (n := 29) (S := fun w' => w'.cell? ⟨gb208, 0, none⟩ = some (.int .i64 a0_0) ∧ w'.cell? ⟨gb208, 1, none⟩ = some (.int .u64 a0_1) ∧ w'.cell? ⟨gb208, 2, none⟩ = some (.int .u32 a0_2) ∧ w'.cell? ⟨gb208, 3, none⟩ = some (.int .u64 a0_3) ∧ w'.cell? ⟨gb208, 4, none⟩ = some (.int .u32 a0_4) ∧ w'.cell? ⟨gb219, 0, none⟩ = some (.int .i64 t213) ∧ w'.cell? ⟨gb219, 1, none⟩ = some (.int .u64 t214) ∧ w'.cell? ⟨gb219, 2, none⟩ = some (.int .u32 t215) ∧ w'.cell? ⟨gb219, 3, none⟩ = some (.int .u64 t216) ∧ w'.cell? ⟨gb219, 4, none⟩ = some (.int .u32 t217) ∧ w'.cell? ⟨gb226, 0, none⟩ = some (.int .i64 t220) ∧ w'.cell? ⟨gb226, 1, none⟩ = some (.int .u64 t221) ∧ w'.cell? ⟨gb226, 2, none⟩ = some (.int .u32 t222) ∧ w'.cell? ⟨gb226, 3, none⟩ = some (.int .u64 t223) ∧ w'.cell? ⟨gb226, 4, none⟩ = some (.int .u32 t224)) (ds := []) #[false, false, false, false, false, false, false, false, false, false, false, false, false, false, false, false, false, false, false, false, false, false, false, false, false, false, false, false, false] (by kernel_rfl) rfl rfl ⟨(blk_cell BK208.out 0).trans rfl, (blk_cell BK208.out 1).trans rfl, (blk_cell BK208.out 2).trans rfl, (blk_cell BK208.out 3).trans rfl, (blk_cell BK208.out 4).trans rfl, (blk_cell BK219.out 0).trans rfl, (blk_cell BK219.out 1).trans rfl, (blk_cell BK219.out 2).trans rfl, (blk_cell BK219.out 3).trans rfl, (blk_cell BK219.out 4).trans rfl, (blk_cell BK226.out 0).trans rfl, (blk_cell BK226.out 1).trans rfl, (blk_cell BK226.out 2).trans rfl, (blk_cell BK226.out 3).trans rfl, (blk_cell BK226.out 4).trans rfl⟩ (fun hHeld => ?_); refine with_tabW gangwaylaw05_ArpBuilds.tab6 gangwaylaw05_ArpBuilds.bits6 (fun HT_ HW_ => ?_)
                generalize w33.drew = w34 at BK208 BK219 BK226 HB hHeld ⊢
                refine one_ (i := 0) (N := some 38) #[true, false, false, false, false, false, false, false, false, false, false, false, false, false, false, false, false, false, false, false, false, false, false, false, false, false, false, false, false] rfl rfl (one_of HT_.out (by kernel_rfl)) (by decide) (fun K hK => ?_)
                refine goes_ Tryd.func11 (by kernel_rfl) rfl #[] (by first | rfl | exact wanted_on rfl rfl rfl (by first | rfl | (simp [*]; done) | (simp [*, IntKind.wrap_u32]; done))) rfl rfl (by (try simp only [List.map_toArray, List.map_cons, List.map_nil]); first | done | rfl | (simp only [List.length_drop, List.length_take]; rfl)) ?_
                with_reducible refine (gangwaylaw05_fixed.calls kj2  true _ A12.out).mono ?_
                rintro e w35 ⟨rfl, hb⟩
                refine ⟨_, rfl, ?_⟩
                have n0_ := Aside0.mk (blk_below (g := gb208) (o := .cells #[.int .i64 a0_0, .int .u64 a0_1, .int .u32 a0_2, .int .u64 a0_3, .int .u32 a0_4] 25 (0, 0)) (by (with_reducible repeat (first | refine blk_drewN ?_ _ | refine blk_drew ?_ | refine blk_alloc ?_ _)); exact BK208.out) hb)
                have n1_ := Aside0.mk (blk_below (g := gb219) (o := .cells #[.int .i64 t213, .int .u64 t214, .int .u32 t215, .int .u64 t216, .int .u32 t217] 25 (0, 0)) (by (with_reducible repeat (first | refine blk_drewN ?_ _ | refine blk_drew ?_ | refine blk_alloc ?_ _)); exact BK219.out) hb)
                have n2_ := Aside0.mk (blk_below (g := gb226) (o := .cells #[.int .i64 t220, .int .u64 t221, .int .u32 t222, .int .u64 t223, .int .u32 t224] 25 (0, 0)) (by (with_reducible repeat (first | refine blk_drewN ?_ _ | refine blk_drew ?_ | refine blk_alloc ?_ _)); exact BK226.out) hb)
                have n3_ := Aside0.mk (below_step (by repeat (first | (with_reducible first | exact HB.out | apply below_alloc | apply pw_below_drewN | apply below_drew1 | refine below_set ?_ GE208.out | refine below_set ?_ GE219.out | refine below_set ?_ GE226.out) | exact HB.out)) hb)
                clear BK208
                clear BK219
                clear BK226
                clear HB
                have BK208 := n0_
                have BK219 := n1_
                have BK226 := n2_
                have HB := n3_
                clear n0_ n1_ n2_ n3_
                (try clear hb)
                (try clear hb2)
                (try clear hk)
                (try clear hi)
                refine hK.out _ _ ⟨(blk_cell BK208.out 0).trans rfl, (blk_cell BK208.out 1).trans rfl, (blk_cell BK208.out 2).trans rfl, (blk_cell BK208.out 3).trans rfl, (blk_cell BK208.out 4).trans rfl, (blk_cell BK219.out 0).trans rfl, (blk_cell BK219.out 1).trans rfl, (blk_cell BK219.out 2).trans rfl, (blk_cell BK219.out 3).trans rfl, (blk_cell BK219.out 4).trans rfl, (blk_cell BK226.out 0).trans rfl, (blk_cell BK226.out 1).trans rfl, (blk_cell BK226.out 2).trans rfl, (blk_cell BK226.out 3).trans rfl, (blk_cell BK226.out 4).trans rfl⟩ (fun hHeld => ?_)
                clear hK K
                refine norm_ (a' := ?_) ?_ ?_
                rotate_left
                · show Act.put _ (some 38) _ = _
                  simp only [Act.put, List.setIfInBounds_toArray, List.set_cons_zero, List.set_cons_succ, i64_w, i32_w]
                  rfl
                refine pure_ (i := 1) (N := some 39) (v := ?_) (a' := ?_) #[true, true, false, false, false, false, false, false, false, false, false, false, false, false, false, false, false, false, false, false, false, false, false, false, false, false, false, false, false] rfl rfl (any_of HT_.out (by kernel_rfl)) (fun _ _ _ h => h) (Or.inl ⟨by rfl, ?_⟩) ?_ ?_
                rotate_left
                · intro w'
                  go_simp
                  first | with_reducible rfl | (rw [if_neg (by (try simp only [decide_eq_true_eq, ByteArray.size_append, ByteArray.size_extract, eq_iff_iff, iff_true, iff_false, Nat.not_lt] at *); omega)]; try with_reducible rfl)
                rotate_left
                · simp only [Act.put, List.setIfInBounds_toArray, List.set_cons_zero, List.set_cons_succ, i64_w, i32_w]
                  rfl
                refine pure_ (i := 2) (N := some 40) (v := ?_) (a' := ?_) #[true, true, true, false, false, false, false, false, false, false, false, false, false, false, false, false, false, false, false, false, false, false, false, false, false, false, false, false, false] rfl rfl (any_of HT_.out (by kernel_rfl)) (fun _ _ _ h => h) (Or.inl ⟨by rfl, ?_⟩) ?_ ?_
                rotate_left
                · intro w'
                  go_simp
                  first | with_reducible rfl | (rw [if_neg (by (try simp only [decide_eq_true_eq, ByteArray.size_append, ByteArray.size_extract, eq_iff_iff, iff_true, iff_false, Nat.not_lt] at *); omega)]; try with_reducible rfl)
                rotate_left
                · simp only [Act.put, List.setIfInBounds_toArray, List.set_cons_zero, List.set_cons_succ, i64_w, i32_w]
                  rfl
                refine pure_ (i := 3) (N := some 41) (v := ?_) (a' := ?_) #[true, true, true, true, false, false, false, false, false, false, false, false, false, false, false, false, false, false, false, false, false, false, false, false, false, false, false, false, false] rfl rfl (any_of HT_.out (by kernel_rfl)) (fun _ _ _ h => h) (Or.inl ⟨by rfl, ?_⟩) ?_ ?_
                rotate_left
                · intro w'
                  go_simp
                  first | with_reducible rfl | (rw [if_neg (by (try simp only [decide_eq_true_eq, ByteArray.size_append, ByteArray.size_extract, eq_iff_iff, iff_true, iff_false, Nat.not_lt] at *); omega)]; try with_reducible rfl)
                rotate_left
                · simp only [Act.put, List.setIfInBounds_toArray, List.set_cons_zero, List.set_cons_succ, i64_w, i32_w]
                  rfl
                refine pure_ (i := 4) (N := some 42) (v := ?_) (a' := ?_) #[true, true, true, true, true, false, false, false, false, false, false, false, false, false, false, false, false, false, false, false, false, false, false, false, false, false, false, false, false] rfl rfl (any_of HT_.out (by kernel_rfl)) (fun _ _ _ h => h) (Or.inl ⟨by rfl, ?_⟩) ?_ ?_
                rotate_left
                · intro w'
                  go_simp
                  first | with_reducible rfl | (rw [if_neg (by (try simp only [decide_eq_true_eq, ByteArray.size_append, ByteArray.size_extract, eq_iff_iff, iff_true, iff_false, Nat.not_lt] at *); omega)]; try with_reducible rfl)
                rotate_left
                · simp only [Act.put, List.setIfInBounds_toArray, List.set_cons_zero, List.set_cons_succ, i64_w, i32_w]
                  rfl
                refine pure_ (i := 5) (N := some 43) (v := ?_) (a' := ?_) #[true, true, true, true, true, true, false, false, false, false, false, false, false, false, false, false, false, false, false, false, false, false, false, false, false, false, false, false, false] rfl rfl (any_of HT_.out (by kernel_rfl)) (fun _ _ _ h => h) (Or.inl ⟨by rfl, ?_⟩) ?_ ?_
                rotate_left
                · intro w'
                  go_simp
                  first | with_reducible rfl | (rw [if_neg (by (try simp only [decide_eq_true_eq, ByteArray.size_append, ByteArray.size_extract, eq_iff_iff, iff_true, iff_false, Nat.not_lt] at *); omega)]; try with_reducible rfl)
                rotate_left
                · simp only [Act.put, List.setIfInBounds_toArray, List.set_cons_zero, List.set_cons_succ, i64_w, i32_w]
                  rfl
                refine pure_ (i := 6) (N := some 44) (v := ?_) (a' := ?_) #[true, true, true, true, true, true, true, false, false, false, false, false, false, false, false, false, false, false, false, false, false, false, false, false, false, false, false, false, false] rfl rfl (any_of HT_.out (by kernel_rfl)) (fun _ _ _ h => h) (Or.inl ⟨by rfl, ?_⟩) ?_ ?_
                rotate_left
                · intro w'
                  go_simp
                  first | with_reducible rfl | (rw [if_neg (by (try simp only [decide_eq_true_eq, ByteArray.size_append, ByteArray.size_extract, eq_iff_iff, iff_true, iff_false, Nat.not_lt] at *); omega)]; try with_reducible rfl)
                rotate_left
                · simp only [Act.put, List.setIfInBounds_toArray, List.set_cons_zero, List.set_cons_succ, i64_w, i32_w]
                  rfl
                refine pure_ (i := 7) (N := some 45) (v := ?_) (a' := ?_) #[true, true, true, true, true, true, true, true, false, false, false, false, false, false, false, false, false, false, false, false, false, false, false, false, false, false, false, false, false] rfl rfl (any_of HT_.out (by kernel_rfl)) (fun _ _ _ h => h) (Or.inl ⟨by rfl, ?_⟩) ?_ ?_
                rotate_left
                · intro w'
                  go_simp
                  first | with_reducible rfl | (rw [if_neg (by (try simp only [decide_eq_true_eq, ByteArray.size_append, ByteArray.size_extract, eq_iff_iff, iff_true, iff_false, Nat.not_lt] at *); omega)]; try with_reducible rfl)
                rotate_left
                · simp only [Act.put, List.setIfInBounds_toArray, List.set_cons_zero, List.set_cons_succ, i64_w, i32_w]
                  rfl
                refine pure_ (i := 8) (N := some 46) (v := ?_) (a' := ?_) #[true, true, true, true, true, true, true, true, true, false, false, false, false, false, false, false, false, false, false, false, false, false, false, false, false, false, false, false, false] rfl rfl (any_of HT_.out (by kernel_rfl)) (fun _ _ _ h => h) (Or.inl ⟨by rfl, ?_⟩) ?_ ?_
                rotate_left
                · intro w'
                  go_simp
                  first | with_reducible rfl | (rw [if_neg (by (try simp only [decide_eq_true_eq, ByteArray.size_append, ByteArray.size_extract, eq_iff_iff, iff_true, iff_false, Nat.not_lt] at *); omega)]; try with_reducible rfl)
                rotate_left
                · simp only [Act.put, List.setIfInBounds_toArray, List.set_cons_zero, List.set_cons_succ, i64_w, i32_w]
                  rfl
                refine pure_ (i := 9) (N := some 47) (v := ?_) (a' := ?_) #[true, true, true, true, true, true, true, true, true, true, false, false, false, false, false, false, false, false, false, false, false, false, false, false, false, false, false, false, false] rfl rfl (any_of HT_.out (by kernel_rfl)) (fun _ _ _ h => h) (Or.inl ⟨by rfl, ?_⟩) ?_ ?_
                rotate_left
                · intro w'
                  go_simp
                  first | with_reducible rfl | (rw [if_neg (by (try simp only [decide_eq_true_eq, ByteArray.size_append, ByteArray.size_extract, eq_iff_iff, iff_true, iff_false, Nat.not_lt] at *); omega)]; try with_reducible rfl)
                rotate_left
                · simp only [Act.put, List.setIfInBounds_toArray, List.set_cons_zero, List.set_cons_succ, i64_w, i32_w]
                  rfl
                refine pure_ (i := 10) (N := some 48) (v := ?_) (a' := ?_) #[true, true, true, true, true, true, true, true, true, true, true, false, false, false, false, false, false, false, false, false, false, false, false, false, false, false, false, false, false] rfl rfl (any_of HT_.out (by kernel_rfl)) (fun _ _ _ h => h) (Or.inl ⟨by rfl, ?_⟩) ?_ ?_
                rotate_left
                · intro w'
                  go_simp
                  first | with_reducible rfl | (rw [if_neg (by (try simp only [decide_eq_true_eq, ByteArray.size_append, ByteArray.size_extract, eq_iff_iff, iff_true, iff_false, Nat.not_lt] at *); omega)]; try with_reducible rfl)
                rotate_left
                · simp only [Act.put, List.setIfInBounds_toArray, List.set_cons_zero, List.set_cons_succ, i64_w, i32_w]
                  rfl
                refine pure_ (i := 11) (N := some 49) (v := ?_) (a' := ?_) #[true, true, true, true, true, true, true, true, true, true, true, true, false, false, false, false, false, false, false, false, false, false, false, false, false, false, false, false, false] rfl rfl (any_of HT_.out (by kernel_rfl)) (fun _ _ _ h => h) (Or.inl ⟨by rfl, ?_⟩) ?_ ?_
                rotate_left
                · intro w'
                  go_simp
                  first | with_reducible rfl | (rw [if_neg (by (try simp only [decide_eq_true_eq, ByteArray.size_append, ByteArray.size_extract, eq_iff_iff, iff_true, iff_false, Nat.not_lt] at *); omega)]; try with_reducible rfl)
                rotate_left
                · simp only [Act.put, List.setIfInBounds_toArray, List.set_cons_zero, List.set_cons_succ, i64_w, i32_w]
                  rfl
                refine take_ (i := 12) (N := some 50) (v := ?_) (a' := ?_) #[true, true, true, true, true, true, true, true, true, true, true, true, true, false, false, false, false, false, false, false, false, false, false, false, false, false, false, false, false] rfl rfl (take_ofW HT_.out HW_.out (by kernel_rfl)) (fun _ _ _ h => h) (Or.inl ⟨by rfl, ?_⟩) hHeld ?_ ?_
                rotate_left
                · rintro w' ⟨s0, s1, s2, s3, s4, s5, s6, s7, s8, s9, s10, s11, s12, s13, s14⟩
                  go_simp
                  with_reducible rfl
                rotate_left
                · simp only [Act.put, List.setIfInBounds_toArray, List.set_cons_zero, List.set_cons_succ, i64_w, i32_w]
                  rfl
                refine take_ (i := 14) (N := some 52) (v := ?_) (a' := ?_) #[true, true, true, true, true, true, true, true, true, true, true, true, true, false, true, false, false, false, false, false, false, false, false, false, false, false, false, false, false] rfl rfl (take_ofW HT_.out HW_.out (by kernel_rfl)) (fun _ _ _ h => h) (Or.inl ⟨by rfl, ?_⟩) hHeld ?_ ?_
                rotate_left
                · rintro w' ⟨s0, s1, s2, s3, s4, s5, s6, s7, s8, s9, s10, s11, s12, s13, s14⟩
                  go_simp
                  with_reducible rfl
                rotate_left
                · simp only [Act.put, List.setIfInBounds_toArray, List.set_cons_zero, List.set_cons_succ, i64_w, i32_w]
                  rfl
                refine one_ (i := 13) (N := some 51) #[true, true, true, true, true, true, true, true, true, true, true, true, true, true, true, false, false, false, false, false, false, false, false, false, false, false, false, false, false] rfl rfl (one_of HT_.out (by kernel_rfl)) (by decide) (fun K hK => ?_)
                refine goes_ Tryd.func12 (by kernel_rfl) rfl #[.agg #[.int .i64 a0_0, .int .u64 a0_1, .int .u32 a0_2, .int .u64 a0_3, .int .u32 a0_4]] (by first | rfl | exact wanted_on rfl rfl rfl (by first | rfl | (simp [*]; done) | (simp [*, IntKind.wrap_u32]; done))) rfl rfl (by (try simp only [List.map_toArray, List.map_cons, List.map_nil]); first | done | rfl | (simp only [List.length_drop, List.length_take]; rfl)) ?_
                with_reducible refine (arp_Check.calls a0_0 a0_1 a0_2 a0_3 a0_4 t228 _ A16.out).mono ?_
                rintro e w36 ⟨rfl, hb⟩
                refine ⟨_, rfl, ?_⟩
                have n0_ := Aside0.mk (blk_below (g := gb208) (o := .cells #[.int .i64 a0_0, .int .u64 a0_1, .int .u32 a0_2, .int .u64 a0_3, .int .u32 a0_4] 25 (0, 0)) (by (with_reducible repeat (first | refine blk_drewN ?_ _ | refine blk_drew ?_ | refine blk_alloc ?_ _)); exact BK208.out) hb)
                have n1_ := Aside0.mk (blk_below (g := gb219) (o := .cells #[.int .i64 t213, .int .u64 t214, .int .u32 t215, .int .u64 t216, .int .u32 t217] 25 (0, 0)) (by (with_reducible repeat (first | refine blk_drewN ?_ _ | refine blk_drew ?_ | refine blk_alloc ?_ _)); exact BK219.out) hb)
                have n2_ := Aside0.mk (blk_below (g := gb226) (o := .cells #[.int .i64 t220, .int .u64 t221, .int .u32 t222, .int .u64 t223, .int .u32 t224] 25 (0, 0)) (by (with_reducible repeat (first | refine blk_drewN ?_ _ | refine blk_drew ?_ | refine blk_alloc ?_ _)); exact BK226.out) hb)
                have n3_ := Aside0.mk (below_step (by repeat (first | (with_reducible first | exact HB.out | apply below_alloc | apply pw_below_drewN | apply below_drew1 | refine below_set ?_ GE208.out | refine below_set ?_ GE219.out | refine below_set ?_ GE226.out) | exact HB.out)) hb)
                clear BK208
                clear BK219
                clear BK226
                clear HB
                have BK208 := n0_
                have BK219 := n1_
                have BK226 := n2_
                have HB := n3_
                clear n0_ n1_ n2_ n3_
                (try clear hb)
                (try clear hb2)
                (try clear hk)
                (try clear hi)
                refine hK.out _ _ ⟨(blk_cell BK208.out 0).trans rfl, (blk_cell BK208.out 1).trans rfl, (blk_cell BK208.out 2).trans rfl, (blk_cell BK208.out 3).trans rfl, (blk_cell BK208.out 4).trans rfl, (blk_cell BK219.out 0).trans rfl, (blk_cell BK219.out 1).trans rfl, (blk_cell BK219.out 2).trans rfl, (blk_cell BK219.out 3).trans rfl, (blk_cell BK219.out 4).trans rfl, (blk_cell BK226.out 0).trans rfl, (blk_cell BK226.out 1).trans rfl, (blk_cell BK226.out 2).trans rfl, (blk_cell BK226.out 3).trans rfl, (blk_cell BK226.out 4).trans rfl⟩ (fun hHeld => ?_)
                clear hK K
                refine norm_ (a' := ?_) ?_ ?_
                rotate_left
                · show Act.put _ (some 51) _ = _
                  simp only [Act.put, List.setIfInBounds_toArray, List.set_cons_zero, List.set_cons_succ, i64_w, i32_w]
                  rfl
                refine one_ (i := 15) (N := some 53) #[true, true, true, true, true, true, true, true, true, true, true, true, true, true, true, true, false, false, false, false, false, false, false, false, false, false, false, false, false] rfl rfl (one_of HT_.out (by kernel_rfl)) (by decide) (fun K hK => ?_)
                refine goes_ Tryd.func13 (by kernel_rfl) rfl #[.agg #[.int .i64 a0_0, .int .u64 a0_1, .int .u32 a0_2, .int .u64 a0_3, .int .u32 a0_4]] (by first | rfl | exact wanted_on rfl rfl rfl (by first | rfl | (simp [*]; done) | (simp [*, IntKind.wrap_u32]; done))) rfl rfl (by (try simp only [List.map_toArray, List.map_cons, List.map_nil]); first | done | rfl | (simp only [List.length_drop, List.length_take]; rfl)) ?_
                with_reducible refine (gangwayref05_Check.calls a0_0 a0_1 a0_2 a0_3 a0_4 t229 _ A17.out).mono ?_
                rintro e w37 ⟨rfl, hb⟩
                refine ⟨_, rfl, ?_⟩
                have n0_ := Aside0.mk (blk_below (g := gb208) (o := .cells #[.int .i64 a0_0, .int .u64 a0_1, .int .u32 a0_2, .int .u64 a0_3, .int .u32 a0_4] 25 (0, 0)) (by (with_reducible repeat (first | refine blk_drewN ?_ _ | refine blk_drew ?_ | refine blk_alloc ?_ _)); exact BK208.out) hb)
                have n1_ := Aside0.mk (blk_below (g := gb219) (o := .cells #[.int .i64 t213, .int .u64 t214, .int .u32 t215, .int .u64 t216, .int .u32 t217] 25 (0, 0)) (by (with_reducible repeat (first | refine blk_drewN ?_ _ | refine blk_drew ?_ | refine blk_alloc ?_ _)); exact BK219.out) hb)
                have n2_ := Aside0.mk (blk_below (g := gb226) (o := .cells #[.int .i64 t220, .int .u64 t221, .int .u32 t222, .int .u64 t223, .int .u32 t224] 25 (0, 0)) (by (with_reducible repeat (first | refine blk_drewN ?_ _ | refine blk_drew ?_ | refine blk_alloc ?_ _)); exact BK226.out) hb)
                have n3_ := Aside0.mk (below_step (by repeat (first | (with_reducible first | exact HB.out | apply below_alloc | apply pw_below_drewN | apply below_drew1 | refine below_set ?_ GE208.out | refine below_set ?_ GE219.out | refine below_set ?_ GE226.out) | exact HB.out)) hb)
                clear BK208
                clear BK219
                clear BK226
                clear HB
                have BK208 := n0_
                have BK219 := n1_
                have BK226 := n2_
                have HB := n3_
                clear n0_ n1_ n2_ n3_
                (try clear hb)
                (try clear hb2)
                (try clear hk)
                (try clear hi)
                refine hK.out _ _ ⟨(blk_cell BK208.out 0).trans rfl, (blk_cell BK208.out 1).trans rfl, (blk_cell BK208.out 2).trans rfl, (blk_cell BK208.out 3).trans rfl, (blk_cell BK208.out 4).trans rfl, (blk_cell BK219.out 0).trans rfl, (blk_cell BK219.out 1).trans rfl, (blk_cell BK219.out 2).trans rfl, (blk_cell BK219.out 3).trans rfl, (blk_cell BK219.out 4).trans rfl, (blk_cell BK226.out 0).trans rfl, (blk_cell BK226.out 1).trans rfl, (blk_cell BK226.out 2).trans rfl, (blk_cell BK226.out 3).trans rfl, (blk_cell BK226.out 4).trans rfl⟩ (fun hHeld => ?_)
                clear hK K
                refine norm_ (a' := ?_) ?_ ?_
                rotate_left
                · show Act.put _ (some 53) _ = _
                  simp only [Act.put, List.setIfInBounds_toArray, List.set_cons_zero, List.set_cons_succ, i64_w, i32_w]
                  rfl
                refine pure_ (i := 16) (N := some 54) (v := ?_) (a' := ?_) #[true, true, true, true, true, true, true, true, true, true, true, true, true, true, true, true, true, false, false, false, false, false, false, false, false, false, false, false, false] rfl rfl (any_of HT_.out (by kernel_rfl)) (fun _ _ _ h => h) (Or.inl ⟨by rfl, ?_⟩) ?_ ?_
                rotate_left
                · intro w'
                  go_simp
                  first | with_reducible rfl | (rw [if_neg (by (try simp only [decide_eq_true_eq, ByteArray.size_append, ByteArray.size_extract, eq_iff_iff, iff_true, iff_false, Nat.not_lt] at *); omega)]; try with_reducible rfl)
                rotate_left
                · simp only [Act.put, List.setIfInBounds_toArray, List.set_cons_zero, List.set_cons_succ, i64_w, i32_w]
                  rfl
                refine pure_ (i := 17) (N := some 55) (v := ?_) (a' := ?_) #[true, true, true, true, true, true, true, true, true, true, true, true, true, true, true, true, true, true, false, false, false, false, false, false, false, false, false, false, false] rfl rfl (any_of HT_.out (by kernel_rfl)) (fun _ _ _ h => h) (Or.inl ⟨by rfl, ?_⟩) ?_ ?_
                rotate_left
                · intro w'
                  go_simp
                  first | with_reducible rfl | (rw [if_neg (by (try simp only [decide_eq_true_eq, ByteArray.size_append, ByteArray.size_extract, eq_iff_iff, iff_true, iff_false, Nat.not_lt] at *); omega)]; try with_reducible rfl)
                rotate_left
                · simp only [Act.put, List.setIfInBounds_toArray, List.set_cons_zero, List.set_cons_succ, i64_w, i32_w]
                  rfl
                refine pure_ (i := 18) (N := some 56) (v := ?_) (a' := ?_) #[true, true, true, true, true, true, true, true, true, true, true, true, true, true, true, true, true, true, true, false, false, false, false, false, false, false, false, false, false] rfl rfl (any_of HT_.out (by kernel_rfl)) (fun _ _ _ h => h) (Or.inl ⟨by rfl, ?_⟩) ?_ ?_
                rotate_left
                · intro w'
                  go_simp
                  first | with_reducible rfl | (rw [if_neg (by (try simp only [decide_eq_true_eq, ByteArray.size_append, ByteArray.size_extract, eq_iff_iff, iff_true, iff_false, Nat.not_lt] at *); omega)]; try with_reducible rfl)
                rotate_left
                · simp only [Act.put, List.setIfInBounds_toArray, List.set_cons_zero, List.set_cons_succ, i64_w, i32_w]
                  rfl
                refine take_ (i := 19) (N := some 57) (v := ?_) (a' := ?_) #[true, true, true, true, true, true, true, true, true, true, true, true, true, true, true, true, true, true, true, true, false, false, false, false, false, false, false, false, false] rfl rfl (take_ofW HT_.out HW_.out (by kernel_rfl)) (fun _ _ _ h => h) (Or.inl ⟨by rfl, ?_⟩) hHeld ?_ ?_
                rotate_left
                · rintro w' ⟨s0, s1, s2, s3, s4, s5, s6, s7, s8, s9, s10, s11, s12, s13, s14⟩
                  go_simp
                  with_reducible rfl
                rotate_left
                · simp only [Act.put, List.setIfInBounds_toArray, List.set_cons_zero, List.set_cons_succ, i64_w, i32_w]
                  rfl
                refine take_ (i := 20) (N := some 58) (v := ?_) (a' := ?_) #[true, true, true, true, true, true, true, true, true, true, true, true, true, true, true, true, true, true, true, true, true, false, false, false, false, false, false, false, false] rfl rfl (take_ofW HT_.out HW_.out (by kernel_rfl)) (fun _ _ _ h => h) (Or.inl ⟨by rfl, ?_⟩) hHeld ?_ ?_
                rotate_left
                · rintro w' ⟨s0, s1, s2, s3, s4, s5, s6, s7, s8, s9, s10, s11, s12, s13, s14⟩
                  go_simp
                  with_reducible rfl
                rotate_left
                · simp only [Act.put, List.setIfInBounds_toArray, List.set_cons_zero, List.set_cons_succ, i64_w, i32_w]
                  rfl
                refine pure_ (i := 21) (N := some 59) (v := ?_) (a' := ?_) #[true, true, true, true, true, true, true, true, true, true, true, true, true, true, true, true, true, true, true, true, true, true, false, false, false, false, false, false, false] rfl rfl (any_of HT_.out (by kernel_rfl)) (fun _ _ _ h => h) (Or.inl ⟨by rfl, ?_⟩) ?_ ?_
                rotate_left
                · intro w'
                  go_simp
                  first | with_reducible rfl | (rw [if_neg (by (try simp only [decide_eq_true_eq, ByteArray.size_append, ByteArray.size_extract, eq_iff_iff, iff_true, iff_false, Nat.not_lt] at *); omega)]; try with_reducible rfl)
                rotate_left
                · simp only [Act.put, List.setIfInBounds_toArray, List.set_cons_zero, List.set_cons_succ, i64_w, i32_w]
                  rfl
                refine pure_ (i := 22) (N := some 60) (v := ?_) (a' := ?_) #[true, true, true, true, true, true, true, true, true, true, true, true, true, true, true, true, true, true, true, true, true, true, true, false, false, false, false, false, false] rfl rfl (any_of HT_.out (by kernel_rfl)) (fun _ _ _ h => h) (Or.inl ⟨by rfl, ?_⟩) ?_ ?_
                rotate_left
                · intro w'
                  go_simp
                  first | with_reducible rfl | (rw [if_neg (by (try simp only [decide_eq_true_eq, ByteArray.size_append, ByteArray.size_extract, eq_iff_iff, iff_true, iff_false, Nat.not_lt] at *); omega)]; try with_reducible rfl)
                rotate_left
                · simp only [Act.put, List.setIfInBounds_toArray, List.set_cons_zero, List.set_cons_succ, i64_w, i32_w]
                  rfl
                refine pure_ (i := 23) (N := some 61) (v := ?_) (a' := ?_) #[true, true, true, true, true, true, true, true, true, true, true, true, true, true, true, true, true, true, true, true, true, true, true, true, false, false, false, false, false] rfl rfl (any_of HT_.out (by kernel_rfl)) (fun _ _ _ h => h) (Or.inl ⟨by rfl, ?_⟩) ?_ ?_
                rotate_left
                · intro w'
                  go_simp
                  first | with_reducible rfl | (rw [if_neg (by (try simp only [decide_eq_true_eq, ByteArray.size_append, ByteArray.size_extract, eq_iff_iff, iff_true, iff_false, Nat.not_lt] at *); omega)]; try with_reducible rfl)
                rotate_left
                · simp only [Act.put, List.setIfInBounds_toArray, List.set_cons_zero, List.set_cons_succ, i64_w, i32_w]
                  rfl
                refine pure_ (i := 24) (N := some 62) (v := ?_) (a' := ?_) #[true, true, true, true, true, true, true, true, true, true, true, true, true, true, true, true, true, true, true, true, true, true, true, true, true, false, false, false, false] rfl rfl (any_of HT_.out (by kernel_rfl)) (fun _ _ _ h => h) (Or.inl ⟨by rfl, ?_⟩) ?_ ?_
                rotate_left
                · intro w'
                  go_simp
                  first | with_reducible rfl | (rw [if_neg (by (try simp only [decide_eq_true_eq, ByteArray.size_append, ByteArray.size_extract, eq_iff_iff, iff_true, iff_false, Nat.not_lt] at *); omega)]; try with_reducible rfl)
                rotate_left
                · simp only [Act.put, List.setIfInBounds_toArray, List.set_cons_zero, List.set_cons_succ, i64_w, i32_w]
                  rfl
                refine pure_ (i := 25) (N := some 63) (v := ?_) (a' := ?_) #[true, true, true, true, true, true, true, true, true, true, true, true, true, true, true, true, true, true, true, true, true, true, true, true, true, true, false, false, false] rfl rfl (any_of HT_.out (by kernel_rfl)) (fun _ _ _ h => h) (Or.inl ⟨by rfl, ?_⟩) ?_ ?_
                rotate_left
                · intro w'
                  go_simp
                  first | with_reducible rfl | (rw [if_neg (by (try simp only [decide_eq_true_eq, ByteArray.size_append, ByteArray.size_extract, eq_iff_iff, iff_true, iff_false, Nat.not_lt] at *); omega)]; try with_reducible rfl)
                rotate_left
                · simp only [Act.put, List.setIfInBounds_toArray, List.set_cons_zero, List.set_cons_succ, i64_w, i32_w]
                  rfl
                refine pure_ (i := 26) (N := some 64) (v := ?_) (a' := ?_) #[true, true, true, true, true, true, true, true, true, true, true, true, true, true, true, true, true, true, true, true, true, true, true, true, true, true, true, false, false] rfl rfl (any_of HT_.out (by kernel_rfl)) (fun _ _ _ h => h) (Or.inl ⟨by rfl, ?_⟩) ?_ ?_
                rotate_left
                · intro w'
                  go_simp
                  first | with_reducible rfl | (rw [if_neg (by (try simp only [decide_eq_true_eq, ByteArray.size_append, ByteArray.size_extract, eq_iff_iff, iff_true, iff_false, Nat.not_lt] at *); omega)]; try with_reducible rfl)
                rotate_left
                · simp only [Act.put, List.setIfInBounds_toArray, List.set_cons_zero, List.set_cons_succ, i64_w, i32_w]
                  rfl
                refine pure_ (i := 27) (N := some 65) (v := ?_) (a' := ?_) #[true, true, true, true, true, true, true, true, true, true, true, true, true, true, true, true, true, true, true, true, true, true, true, true, true, true, true, true, false] rfl rfl (any_of HT_.out (by kernel_rfl)) (fun _ _ _ h => h) (Or.inl ⟨by rfl, ?_⟩) ?_ ?_
                rotate_left
                · intro w'
                  go_simp
                  first | with_reducible rfl | (rw [if_neg (by (try simp only [decide_eq_true_eq, ByteArray.size_append, ByteArray.size_extract, eq_iff_iff, iff_true, iff_false, Nat.not_lt] at *); omega)]; try with_reducible rfl)
                rotate_left
                · simp only [Act.put, List.setIfInBounds_toArray, List.set_cons_zero, List.set_cons_succ, i64_w, i32_w]
                  rfl
                refine pure_ (i := 28) (N := some 4) (v := ?_) (a' := ?_) #[true, true, true, true, true, true, true, true, true, true, true, true, true, true, true, true, true, true, true, true, true, true, true, true, true, true, true, true, true] rfl rfl (any_of HT_.out (by kernel_rfl)) (fun _ _ _ h => h) (Or.inl ⟨by rfl, ?_⟩) ?_ ?_
                rotate_left
                · intro w'
                  go_simp
                  first | with_reducible rfl | (rw [if_neg (by (try simp only [decide_eq_true_eq, ByteArray.size_append, ByteArray.size_extract, eq_iff_iff, iff_true, iff_false, Nat.not_lt] at *); omega)]; try with_reducible rfl)
                rotate_left
                · simp only [Act.put, List.setIfInBounds_toArray, List.set_cons_zero, List.set_cons_succ, i64_w, i32_w]
                  rfl
                refine done_ (done_of HT_.out (by kernel_rfl)) ?_
                try go_wp2
                go_ret
                exact ⟨by first | rfl | (simp [errW_none, errW_some] <;> rfl) | (simp [*, errW_none, errW_some] <;> rfl) | (simp [*, IntKind.wrap_u32]; done) | (simp_all [IntKind.wrap_u32]; done), by repeat (first | (with_reducible first | exact HB.out | apply below_alloc | apply pw_below_drewN | apply below_drew1 | refine below_set ?_ GE208.out | refine below_set ?_ GE219.out | refine below_set ?_ GE226.out) | exact HB.out)⟩
              · rw [if_neg c19] at H
                have c19b0 : (t213 == t220 && (t214 == t221 && (t215 == t222 && (t216 == t223 && (t217 == t224))))) = false := by simpa using c19
                (try (have c19b1 : decide (t213 = t220 && (t214 == t221 && (t215 == t222 && (t216 == t223 && (t217 == t224))))) = false := by simpa using c19))
                (try (have c19b2 : (t213 == t220 && (t214 == t221 && (t215 == t222 && (t216 == t223 && (t217 == t224))))) = false := by simpa using c19))
                (try (have c19b3 : ¬ (t213 = t220 && (t214 == t221 && (t215 == t222 && (t216 == t223 && (t217 == t224))))) := by simpa using c19))
                clear c19
                exact absurd H (by simp)
            · rw [if_neg c18] at H
              have c18b0 : (t228 == t229) = false := beq_eq_false_iff_ne.mpr c18
              have c18b1 : (t228 != t229) = true := bne_iff_ne.mpr c18
              exact absurd H (by simp)
          · rw [if_neg c15] at H
            have c15b0 : (t210 == t212) = false := beq_eq_false_iff_ne.mpr c15
            have c15b1 : (t210 != t212) = true := bne_iff_ne.mpr c15
            exact absurd H (by simp)
        · rw [if_neg c14] at H
          have c14b0 : (t209.toList == t211.toList) = false := beq_eq_false_iff_ne.mpr c14
          have c14b1 : (t209.toList != t211.toList) = true := bne_iff_ne.mpr c14
          exact absurd H (by simp)
      · replace c13 := Bool.eq_false_iff.mpr c13
        subst c13
        have H1 : (none) = some r := by rw [if_neg (show ¬ (false = true) by decide)] at H; exact H
        clear H
        have H := H1
        clear H1
        exact absurd H (by simp)

end Go.Proofs.YtjlikmonnnbnaaaDoor.P
