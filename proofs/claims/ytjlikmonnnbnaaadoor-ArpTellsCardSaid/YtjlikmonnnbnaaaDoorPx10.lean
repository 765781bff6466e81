-- Written by wip/hprint.py (this session's program) through the kit's print program; hand contracts are marked 'by hand'.
import Derived.Test.YtjlikmonnnbnaaaDoorPx0
import Derived.Test.YtjlikmonnnbnaaaDoorPx7
import Derived.Test.YtjlikmonnnbnaaaDoorPx9
namespace Go.Proofs.YtjlikmonnnbnaaaDoor.P
open Go.RowKit Go.Proofs.YtjlikmonnnbnaaaDoorW.PrintWords Go.Proofs.YtjlikmonnnbnaaaDoorW.PrintLast Go.Proofs.YtjlikmonnnbnaaaDoorW.PrintMore
attribute [local go_sem] max2_int min2_int max_two min_two max_three min_three max_four min_four   -- for this text's walks alone
set_option linter.unusedVariables false
set_option linter.unusedSimpArgs false

/-! ### gangwayref05_Build: function 8 -/
def gangwayref05_Build.f (k : Nat) (a0_0 : Int) (a0_1 : Int) (a0_2 : Int) (a0_3 : Int) (a0_4 : Int) : Option (ByteArray × Int) := (gangwayref05_Check.f a0_0 a0_1 a0_2 a0_3 a0_4).bind fun t125 => (if t125 = 0 then ((gangwayref05_Laid.f k a0_0 a0_1 a0_2 a0_3 a0_4).bind fun t126 => (some (t126, 0))) else (some ((⟨#[]⟩ : ByteArray), t125)))
theorem gangwayref05_Build.mono : ∀ a0 a1 a2 a3 a4 k, LeO (gangwayref05_Build.f k a0 a1 a2 a3 a4) (gangwayref05_Build.f (k + 1) a0 a1 a2 a3 a4) := by
  intro a0 a1 a2 a3 a4 k
  unfold gangwayref05_Build.f
  repeat' first
      | (with_reducible exact gangwayref05_Laid.mono _ _ _ _ _ _)
      | (with_reducible exact LeO.refl _)
      | (with_reducible exact LeO.none _)
      | (with_reducible refine LeO.ite ?_ ?_)
      | (with_reducible refine LeO.bind ?_ (fun _ => ?_))
      | exact gangwayref05_Laid.mono _ _ _ _ _ _
      | exact LeO.none _
      | refine LeO.ite ?_ ?_
      | refine LeO.bind ?_ (fun _ => ?_)
set_option maxHeartbeats 8000000 in
set_option maxRecDepth 100000 in
theorem gangwayref05_Build.calls (k : Nat) (a0_0 : Int) (a0_1 : Int) (a0_2 : Int) (a0_3 : Int) (a0_4 : Int) (r1 : ByteArray) (r2 : Int) (w : World) (h : gangwayref05_Build.f k a0_0 a0_1 a0_2 a0_3 a0_4 = some (r1, r2)) :
    Calls Tryd.prog 8 #[.agg #[.int .i64 a0_0, .int .u64 a0_1, .int .u32 a0_2, .int .u64 a0_3, .int .u32 a0_4]] w fun e w' => e = .returned (.tuple #[.string r1, .int .i64 r2]) ∧ Below w.heap.size w w' := by
  have hu25 := Tryd.underlying25
  have HB := Aside0.mk (Below.refl w.heap.size w)
  have H : ((gangwayref05_Check.f a0_0 a0_1 a0_2 a0_3 a0_4).bind fun t125 => (if t125 = 0 then ((gangwayref05_Laid.f k a0_0 a0_1 a0_2 a0_3 a0_4).bind fun t126 => (some (t126, 0))) else (some ((⟨#[]⟩ : ByteArray), t125)))) = some (r1, r2) := h
  clear h
  replace H := Option.bind_eq_some_iff.mp H
  obtain ⟨t125, A20, H⟩ := H
  replace H : (if t125 = 0 then ((gangwayref05_Laid.f k a0_0 a0_1 a0_2 a0_3 a0_4).bind fun t126 => (some (t126, 0))) else (some ((⟨#[]⟩ : ByteArray), t125))) = some (r1, r2) := H
  have A2 := Aside0.mk A20
  clear A20
  by_cases c3 : t125 = 0
  · rw [if_pos c3] at H
    have c3b0 : (t125 == 0) = true := beq_iff_eq.mpr c3
    have c3b1 : (t125 != 0) = false := bne_eq_false_iff_eq.mpr c3
    clear c3
    replace H := Option.bind_eq_some_iff.mp H
    obtain ⟨t126, A40, H⟩ := H
    replace H : (some (t126, 0)) = some (r1, r2) := H
    have A4 := Aside0.mk A40
    clear A40
    simp only [Option.some.injEq, Prod.mk.injEq] at H
    obtain ⟨rfl, rfl⟩ := H
    go_enter Tryd.func8, Tryd.ntmps8
    go_wp2_with (first | ((with_reducible refine gate_dst (N := 1) rfl ?_); refine box_event ?hg (N := 1) ?hd (cs := #[.int .i64 a0_0, .int .u64 a0_1, .int .u32 a0_2, .int .u64 a0_3, .int .u32 a0_4]) (t := 25) ?hr ?_; (case hd => rfl); (case hg => rfl); (case hr => first | (go_simp; done) | (go_simp; rfl)); intro gb124 hg w5 hbox hb; have n0_ := Aside0.mk (below_step (by repeat (first | (with_reducible first | exact HB.out | apply below_alloc | apply pw_below_drewN | apply below_drew1) | exact HB.out)) hb); have n1_ := Aside0.mk (hbox); have n2_ := Aside0.mk ((by rw [hg]; exact (below_size (by repeat (first | (with_reducible first | exact HB.out | apply below_alloc | apply pw_below_drewN | apply below_drew1) | exact HB.out))) : w.heap.size ≤ gb124)); have n3_ := Aside0.mk ((by rw [hg]; exact (below_size (by repeat (first | (with_reducible first | exact HB.out | apply below_alloc | apply pw_below_drewN | apply below_drew1) | exact HB.out))) : w.heap.size ≤ gb124)); clear HB; have HB := n0_; have BK124 := n1_; have GW124 := n2_; have GE124 := n3_; clear n0_ n1_ n2_ n3_; clear hb hbox hg; have hcz6_0 : w5.cell? ⟨gb124, 0, none⟩ = some (.int .i64 a0_0) := (blk_cell BK124.out 0).trans rfl; have hcz6_1 : w5.cell? ⟨gb124, 1, none⟩ = some (.int .u64 a0_1) := (blk_cell BK124.out 1).trans rfl; have hcz6_2 : w5.cell? ⟨gb124, 2, none⟩ = some (.int .u32 a0_2) := (blk_cell BK124.out 2).trans rfl; have hcz6_3 : w5.cell? ⟨gb124, 3, none⟩ = some (.int .u64 a0_3) := (blk_cell BK124.out 3).trans rfl; have hcz6_4 : w5.cell? ⟨gb124, 4, none⟩ = some (.int .u32 a0_4) := (blk_cell BK124.out 4).trans rfl; have hfz6_0 := blk_frozen BK124.out 0; have hfz6_1 := blk_frozen BK124.out 1; have hfz6_2 := blk_frozen BK124.out 2; have hfz6_3 := blk_frozen BK124.out 3; have hfz6_4 := blk_frozen BK124.out 4) | ((with_reducible refine gate_callee (f := 13) rfl ?_); refine goesL_ (some 6) rfl rfl Tryd.func13 (by kernel_rfl) rfl #[.agg #[.int .i64 a0_0, .int .u64 a0_1, .int .u32 a0_2, .int .u64 a0_3, .int .u32 a0_4]] rfl (by (try simp only [List.map_toArray, List.map_cons, List.map_nil]); first | done | rfl | (simp only [List.length_drop, List.length_take]; rfl)) ?_; (with_reducible refine (gangwayref05_Check.calls a0_0 a0_1 a0_2 a0_3 a0_4 t125 _ A2.out).mono ?_); rintro e w7 ⟨rfl, hb⟩; refine ⟨_, rfl, ?_⟩; have n0_ := Aside0.mk (blk_below (g := gb124) (o := .cells #[.int .i64 a0_0, .int .u64 a0_1, .int .u32 a0_2, .int .u64 a0_3, .int .u32 a0_4] 25 (0, 0)) (by (with_reducible repeat (first | refine blk_drewN ?_ _ | refine blk_drew ?_ | refine blk_alloc ?_ _)); exact BK124.out) hb); have n1_ := Aside0.mk (below_step (by repeat (first | (with_reducible first | exact HB.out | apply below_alloc | apply pw_below_drewN | apply below_drew1 | refine below_set ?_ GE124.out) | exact HB.out)) hb); clear BK124; clear HB; have BK124 := n0_; have HB := n1_; clear n0_ n1_; have hcy1_124_0 := (show World.cell? _ ⟨gb124, 0, none⟩ = some (.int .i64 a0_0) from (blk_cell BK124.out 0).trans rfl); have hcy1_124_1 := (show World.cell? _ ⟨gb124, 1, none⟩ = some (.int .u64 a0_1) from (blk_cell BK124.out 1).trans rfl); have hcy1_124_2 := (show World.cell? _ ⟨gb124, 2, none⟩ = some (.int .u32 a0_2) from (blk_cell BK124.out 2).trans rfl); have hcy1_124_3 := (show World.cell? _ ⟨gb124, 3, none⟩ = some (.int .u64 a0_3) from (blk_cell BK124.out 3).trans rfl); have hcy1_124_4 := (show World.cell? _ ⟨gb124, 4, none⟩ = some (.int .u32 a0_4) from (blk_cell BK124.out 4).trans rfl); (try clear hb); (try clear hb2); (try clear hk); (try clear hi); have hcz8_0 : w7.cell? ⟨gb124, 0, none⟩ = some (.int .i64 a0_0) := (blk_cell BK124.out 0).trans rfl; have hcz8_1 : w7.cell? ⟨gb124, 1, none⟩ = some (.int .u64 a0_1) := (blk_cell BK124.out 1).trans rfl; have hcz8_2 : w7.cell? ⟨gb124, 2, none⟩ = some (.int .u32 a0_2) := (blk_cell BK124.out 2).trans rfl; have hcz8_3 : w7.cell? ⟨gb124, 3, none⟩ = some (.int .u64 a0_3) := (blk_cell BK124.out 3).trans rfl; have hcz8_4 : w7.cell? ⟨gb124, 4, none⟩ = some (.int .u32 a0_4) := (blk_cell BK124.out 4).trans rfl; have hfz8_0 := blk_frozen BK124.out 0; have hfz8_1 := blk_frozen BK124.out 1; have hfz8_2 := blk_frozen BK124.out 2; have hfz8_3 := blk_frozen BK124.out 3; have hfz8_4 := blk_frozen BK124.out 4) | ((with_reducible refine gate_callee (f := 20) rfl ?_); refine goesL_ (some 11) rfl rfl Tryd.func20 (by kernel_rfl) rfl #[.agg #[.int .i64 a0_0, .int .u64 a0_1, .int .u32 a0_2, .int .u64 a0_3, .int .u32 a0_4]] rfl (by (try simp only [List.map_toArray, List.map_cons, List.map_nil]); first | done | rfl | (simp only [List.length_drop, List.length_take]; rfl)) ?_; (with_reducible refine (gangwayref05_Laid.calls k a0_0 a0_1 a0_2 a0_3 a0_4 t126 _ A4.out).mono ?_); rintro e w9 ⟨rfl, hb⟩; refine ⟨_, rfl, ?_⟩; have n0_ := Aside0.mk (blk_below (g := gb124) (o := .cells #[.int .i64 a0_0, .int .u64 a0_1, .int .u32 a0_2, .int .u64 a0_3, .int .u32 a0_4] 25 (0, 0)) (by (with_reducible repeat (first | refine blk_drewN ?_ _ | refine blk_drew ?_ | refine blk_alloc ?_ _)); exact BK124.out) hb); have n1_ := Aside0.mk (below_step (by repeat (first | (with_reducible first | exact HB.out | apply below_alloc | apply pw_below_drewN | apply below_drew1 | refine below_set ?_ GE124.out) | exact HB.out)) hb); clear BK124; clear HB; have BK124 := n0_; have HB := n1_; clear n0_ n1_; have hcy2_124_0 := (show World.cell? _ ⟨gb124, 0, none⟩ = some (.int .i64 a0_0) from (blk_cell BK124.out 0).trans rfl); have hcy2_124_1 := (show World.cell? _ ⟨gb124, 1, none⟩ = some (.int .u64 a0_1) from (blk_cell BK124.out 1).trans rfl); have hcy2_124_2 := (show World.cell? _ ⟨gb124, 2, none⟩ = some (.int .u32 a0_2) from (blk_cell BK124.out 2).trans rfl); have hcy2_124_3 := (show World.cell? _ ⟨gb124, 3, none⟩ = some (.int .u64 a0_3) from (blk_cell BK124.out 3).trans rfl); have hcy2_124_4 := (show World.cell? _ ⟨gb124, 4, none⟩ = some (.int .u32 a0_4) from (blk_cell BK124.out 4).trans rfl); (try clear hb); (try clear hb2); (try clear hk); (try clear hi)))
    go_ret2
    exact ⟨by first | rfl | (simp [errW_none, errW_some] <;> rfl) | (simp [*, errW_none, errW_some] <;> rfl) | (simp [*, IntKind.wrap_u32]; done) | (simp_all [IntKind.wrap_u32]; done), by repeat (first | (with_reducible first | exact HB.out | apply below_alloc | apply pw_below_drewN | apply below_drew1 | refine below_set ?_ GE124.out) | exact HB.out)⟩
  · rw [if_neg c3] at H
    have c3b0 : (t125 == 0) = false := beq_eq_false_iff_ne.mpr c3
    have c3b1 : (t125 != 0) = true := bne_iff_ne.mpr c3
    simp only [Option.some.injEq, Prod.mk.injEq] at H
    obtain ⟨rfl, rfl⟩ := H
    go_enter Tryd.func8, Tryd.ntmps8
    go_wp2_with (first | ((with_reducible refine gate_dst (N := 1) rfl ?_); refine box_event ?hg (N := 1) ?hd (cs := #[.int .i64 a0_0, .int .u64 a0_1, .int .u32 a0_2, .int .u64 a0_3, .int .u32 a0_4]) (t := 25) ?hr ?_; (case hd => rfl); (case hg => rfl); (case hr => first | (go_simp; done) | (go_simp; rfl)); intro gb124 hg w10 hbox hb; have n0_ := Aside0.mk (below_step (by repeat (first | (with_reducible first | exact HB.out | apply below_alloc | apply pw_below_drewN | apply below_drew1) | exact HB.out)) hb); have n1_ := Aside0.mk (hbox); have n2_ := Aside0.mk ((by rw [hg]; exact (below_size (by repeat (first | (with_reducible first | exact HB.out | apply below_alloc | apply pw_below_drewN | apply below_drew1) | exact HB.out))) : w.heap.size ≤ gb124)); have n3_ := Aside0.mk ((by rw [hg]; exact (below_size (by repeat (first | (with_reducible first | exact HB.out | apply below_alloc | apply pw_below_drewN | apply below_drew1) | exact HB.out))) : w.heap.size ≤ gb124)); clear HB; have HB := n0_; have BK124 := n1_; have GW124 := n2_; have GE124 := n3_; clear n0_ n1_ n2_ n3_; clear hb hbox hg; have hcz11_0 : w10.cell? ⟨gb124, 0, none⟩ = some (.int .i64 a0_0) := (blk_cell BK124.out 0).trans rfl; have hcz11_1 : w10.cell? ⟨gb124, 1, none⟩ = some (.int .u64 a0_1) := (blk_cell BK124.out 1).trans rfl; have hcz11_2 : w10.cell? ⟨gb124, 2, none⟩ = some (.int .u32 a0_2) := (blk_cell BK124.out 2).trans rfl; have hcz11_3 : w10.cell? ⟨gb124, 3, none⟩ = some (.int .u64 a0_3) := (blk_cell BK124.out 3).trans rfl; have hcz11_4 : w10.cell? ⟨gb124, 4, none⟩ = some (.int .u32 a0_4) := (blk_cell BK124.out 4).trans rfl; have hfz11_0 := blk_frozen BK124.out 0; have hfz11_1 := blk_frozen BK124.out 1; have hfz11_2 := blk_frozen BK124.out 2; have hfz11_3 := blk_frozen BK124.out 3; have hfz11_4 := blk_frozen BK124.out 4) | ((with_reducible refine gate_callee (f := 13) rfl ?_); refine goesL_ (some 6) rfl rfl Tryd.func13 (by kernel_rfl) rfl #[.agg #[.int .i64 a0_0, .int .u64 a0_1, .int .u32 a0_2, .int .u64 a0_3, .int .u32 a0_4]] rfl (by (try simp only [List.map_toArray, List.map_cons, List.map_nil]); first | done | rfl | (simp only [List.length_drop, List.length_take]; rfl)) ?_; (with_reducible refine (gangwayref05_Check.calls a0_0 a0_1 a0_2 a0_3 a0_4 t125 _ A2.out).mono ?_); rintro e w12 ⟨rfl, hb⟩; refine ⟨_, rfl, ?_⟩; have n0_ := Aside0.mk (blk_below (g := gb124) (o := .cells #[.int .i64 a0_0, .int .u64 a0_1, .int .u32 a0_2, .int .u64 a0_3, .int .u32 a0_4] 25 (0, 0)) (by (with_reducible repeat (first | refine blk_drewN ?_ _ | refine blk_drew ?_ | refine blk_alloc ?_ _)); exact BK124.out) hb); have n1_ := Aside0.mk (below_step (by repeat (first | (with_reducible first | exact HB.out | apply below_alloc | apply pw_below_drewN | apply below_drew1 | refine below_set ?_ GE124.out) | exact HB.out)) hb); clear BK124; clear HB; have BK124 := n0_; have HB := n1_; clear n0_ n1_; have hcy1_124_0 := (show World.cell? _ ⟨gb124, 0, none⟩ = some (.int .i64 a0_0) from (blk_cell BK124.out 0).trans rfl); have hcy1_124_1 := (show World.cell? _ ⟨gb124, 1, none⟩ = some (.int .u64 a0_1) from (blk_cell BK124.out 1).trans rfl); have hcy1_124_2 := (show World.cell? _ ⟨gb124, 2, none⟩ = some (.int .u32 a0_2) from (blk_cell BK124.out 2).trans rfl); have hcy1_124_3 := (show World.cell? _ ⟨gb124, 3, none⟩ = some (.int .u64 a0_3) from (blk_cell BK124.out 3).trans rfl); have hcy1_124_4 := (show World.cell? _ ⟨gb124, 4, none⟩ = some (.int .u32 a0_4) from (blk_cell BK124.out 4).trans rfl); (try clear hb); (try clear hb2); (try clear hk); (try clear hi)))
    go_ret2
    exact ⟨by first | rfl | (simp [errW_none, errW_some] <;> rfl) | (simp [*, errW_none, errW_some] <;> rfl) | (simp [*, IntKind.wrap_u32]; done) | (simp_all [IntKind.wrap_u32]; done), by repeat (first | (with_reducible first | exact HB.out | apply below_alloc | apply pw_below_drewN | apply below_drew1 | refine below_set ?_ GE124.out) | exact HB.out)⟩

/-! ### octets_part: function 32, by hand -/
def octets_part.f (a0 : ByteArray) (a1 : Int) (a2 : Int) : Option (ByteArray × Option Int) :=
  if 0 ≤ a1 then (if 0 ≤ a2 then (if a1 + a2 ≤ (a0.size : Int) then (if a0.size ≤ 1099511627776 then some (a0.extract a1.toNat (a1 + a2).toNat, none) else none) else none) else none) else none
set_option maxHeartbeats 4000000 in
theorem octets_part.calls (a0 : ByteArray) (a1 : Int) (a2 : Int) (r1 : ByteArray) (r2 : Option Int) (w : World) (h : octets_part.f a0 a1 a2 = some (r1, r2)) :
    Calls Tryd.prog 32 #[.string a0, .int .i64 a1, .int .i64 a2] w fun e w' => e = .returned (.tuple #[.string r1, errW r2]) ∧ Drawn0 w w' := by
  unfold octets_part.f at h
  by_cases h1 : 0 ≤ a1
  · rw [if_pos h1] at h
    by_cases h2 : 0 ≤ a2
    · rw [if_pos h2] at h
      by_cases h3 : a1 + a2 ≤ (a0.size : Int)
      · rw [if_pos h3] at h
        by_cases h4 : a0.size ≤ 1099511627776
        · rw [if_pos h4] at h
          obtain ⟨i, rfl⟩ := Int.eq_ofNat_of_zero_le h1
          obtain ⟨n, rfl⟩ := Int.eq_ofNat_of_zero_le h2
          obtain ⟨rfl, rfl⟩ : a0.extract i (i + n) = r1 ∧ none = r2 := by
            have h5 := Option.some.inj h
            rw [Int.toNat_natCast, show ((i : Int) + (n : Int)).toNat = i + n by omega] at h5
            exact Prod.mk.inj h5
          clear h
          have h5 : i + n ≤ a0.size := by omega
          clear h3
          have b3 : decide (a0.size < i) = false := decide_eq_false (by omega)
          have b4 : decide ((a0.size : Int) - (i : Int) < (n : Int)) = false := decide_eq_false (by omega)
          have b5 : ¬ a0.size < i := by omega
          have b6 : ¬ ((a0.size : Int) - (i : Int) < (n : Int)) := by omega
          have c1 := eq_true (show (0 : Int) ≤ (i : Int) by omega)
          have c2 := eq_true (show (i : Int) ≤ (i : Int) + (n : Int) by omega)
          have c3 := eq_true (show (i : Int) + (n : Int) ≤ (a0.size : Int) by omega)
          have c4 : ((i : Int) + (n : Int)).toNat = i + n := by omega
          go_enter Tryd.func32, Tryd.ntmps32
          go_wp2
          go_ret2
          exact ⟨rfl, ⟨0, rfl⟩⟩
        · rw [if_neg h4] at h
          cases h
      · rw [if_neg h3] at h
        cases h
    · rw [if_neg h2] at h
      cases h
  · rw [if_neg h1] at h
    cases h

/-! ### octets_number: function 33, by hand -/
def octets_number.f (a0 : Option Int) : Option (Int) := if a0 = none then some 0 else none
theorem octets_number.calls (a0 : Option Int) (r : Int) (w : World) (h : octets_number.f a0 = some r) :
    Calls Tryd.prog 33 #[errW a0] w fun e w' => e = .returned (.int .i64 r) ∧ Below w.heap.size w w' := by
  unfold octets_number.f at h
  by_cases h1 : a0 = none
  · rw [if_pos h1] at h
    cases h
    subst h1
    rw [errW_none]
    go_enter Tryd.func33, Tryd.ntmps33
    go_wp2
    go_ret
    exact ⟨rfl, (Below.refl _ _).alloc (Nat.le_refl _) _⟩
  · rw [if_neg h1] at h
    cases h

end Go.Proofs.YtjlikmonnnbnaaaDoor.P
