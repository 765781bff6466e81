-- Written by wip/hprint.py (this session's program) through the kit's print program; hand contracts are marked 'by hand'.
import Derived.Test.YtppaikjbafobbaaDoorPx0
import Derived.Test.YtppaikjbafobbaaDoorPx12
import Derived.Test.YtppaikjbafobbaaDoorPx13
namespace Go.Proofs.YtppaikjbafobbaaDoor.P
open Go.RowKit Go.Proofs.YtppaikjbafobbaaDoorW.PrintWords Go.Proofs.YtppaikjbafobbaaDoorW.PrintLast Go.Proofs.YtppaikjbafobbaaDoorW.PrintMore
attribute [local go_sem] max2_int min2_int max_two min_two max_three min_three max_four min_four   -- for this text's walks alone
set_option linter.unusedVariables false
set_option linter.unusedSimpArgs false

/-! ### udp_Parse: function 14 -/
def udp_Parse.f (k : Nat) (a0 : Int) (a1 : Int) (a2 : ByteArray) : Option (Int × Int × Bool × ByteArray × Int) := (udp_wrong.f k a0 a1 a2).bind fun bt171 => (if bt171.1 = 0 then (some (0, 0, false, (⟨#[]⟩ : ByteArray), 70)) else (if bt171.1 = 2 then (some (0, 0, false, (⟨#[]⟩ : ByteArray), 70)) else (if bt171.1 = 1 then (some (0, 0, false, (⟨#[]⟩ : ByteArray), 71)) else (if bt171.1 = 3 then (some (0, 0, false, (⟨#[]⟩ : ByteArray), 72)) else ((octets_Get.f k a2 0 2).bind fun bt173 => ((octets_Get.f k a2 2 2).bind fun bt175 => (if 6 ≤ 8 then (if 8 ≤ (a2.size : Int) then (if 8 ≤ bt171.2 then (if bt171.2 ≤ (a2.size : Int) then (some (wrap64 (bt173.1), wrap64 (bt175.1), ((a2.extract 6 8).toList == ([0, 0] : List UInt8)), a2.extract 8 (bt171.2 : Int).toNat, 0)) else (none)) else (none)) else (none)) else (none))))))))
theorem udp_Parse.mono : ∀ a0 a1 a2 k, LeO (udp_Parse.f k a0 a1 a2) (udp_Parse.f (k + 1) a0 a1 a2) := by
  intro a0 a1 a2 k
  unfold udp_Parse.f
  repeat' first
      | (with_reducible exact octets_Get.mono _ _ _ _)
      | (with_reducible exact udp_wrong.mono _ _ _ _)
      | (with_reducible exact LeO.refl _)
      | (with_reducible exact LeO.none _)
      | (with_reducible refine LeO.ite ?_ ?_)
      | (with_reducible refine LeO.bind ?_ (fun _ => ?_))
      | exact octets_Get.mono _ _ _ _
      | exact udp_wrong.mono _ _ _ _
      | exact LeO.none _
      | refine LeO.ite ?_ ?_
      | refine LeO.bind ?_ (fun _ => ?_)
def udp_Parse.T12 : Bool × List (List Nat × List Nat) := (true, [([], []), ([0], [0]), ([], []), ([2], [2]), ([], []), ([4], [4]), ([5], [5]), ([], []), ([], []), ([7, 8], [7, 8]), ([1, 3, 6, 9], [1, 3, 6, 9]), ([10, 0, 1, 2, 3, 4, 5, 6, 7, 8, 9, 10], [10]), ([11, 0, 1, 2, 3, 4, 5, 6, 7, 8, 9, 10, 11], [])])
def udp_Parse.B12 : List Nat := [0, 1, 0, 4, 0, 16, 48, 0, 0, 384, 1023, 2047, 4095]
theorem udp_Parse.tab12 : rtab .any (opsOf Tryd.f14 12) = udp_Parse.T12 := by kernel_rfl
theorem udp_Parse.bits12 : waitsOk udp_Parse.T12.2 udp_Parse.B12 = true := by kernel_rfl
set_option maxHeartbeats 8000000 in
set_option maxRecDepth 100000 in
theorem udp_Parse.calls (k : Nat) (a0 : Int) (a1 : Int) (a2 : ByteArray) (r1 : Int) (r2 : Int) (r3 : Bool) (r4 : ByteArray) (r5 : Int) (w : World) (h : udp_Parse.f k a0 a1 a2 = some (r1, r2, r3, r4, r5)) :
    Calls Tryd.prog 14 #[.int .u32 a0, .int .u32 a1, .string a2] w fun e w' => e = .returned (.tuple #[.agg #[.int .i64 r1, .int .i64 r2, .bool r3, .string r4], .int .i64 r5]) ∧ Below w.heap.size w w' := by
  have hu26 := Tryd.underlying26
  have HB := Aside0.mk (Below.refl w.heap.size w)
  have H : ((udp_wrong.f k a0 a1 a2).bind fun bt171 => (if bt171.1 = 0 then (some (0, 0, false, (⟨#[]⟩ : ByteArray), 70)) else (if bt171.1 = 2 then (some (0, 0, false, (⟨#[]⟩ : ByteArray), 70)) else (if bt171.1 = 1 then (some (0, 0, false, (⟨#[]⟩ : ByteArray), 71)) else (if bt171.1 = 3 then (some (0, 0, false, (⟨#[]⟩ : ByteArray), 72)) else ((octets_Get.f k a2 0 2).bind fun bt173 => ((octets_Get.f k a2 2 2).bind fun bt175 => (if 6 ≤ 8 then (if 8 ≤ (a2.size : Int) then (if 8 ≤ bt171.2 then (if bt171.2 ≤ (a2.size : Int) then (some (wrap64 (bt173.1), wrap64 (bt175.1), ((a2.extract 6 8).toList == ([0, 0] : List UInt8)), a2.extract 8 (bt171.2 : Int).toNat, 0)) else (none)) else (none)) else (none)) else (none))))))))) = some (r1, r2, r3, r4, r5) := h
  clear h
  replace H := Option.bind_eq_some_iff.mp H
  obtain ⟨⟨t171, t172⟩, A40, H⟩ := H
  replace H : (if t171 = 0 then (some (0, 0, false, (⟨#[]⟩ : ByteArray), 70)) else (if t171 = 2 then (some (0, 0, false, (⟨#[]⟩ : ByteArray), 70)) else (if t171 = 1 then (some (0, 0, false, (⟨#[]⟩ : ByteArray), 71)) else (if t171 = 3 then (some (0, 0, false, (⟨#[]⟩ : ByteArray), 72)) else ((octets_Get.f k a2 0 2).bind fun bt173 => ((octets_Get.f k a2 2 2).bind fun bt175 => (if 6 ≤ 8 then (if 8 ≤ (a2.size : Int) then (if 8 ≤ t172 then (if t172 ≤ (a2.size : Int) then (some (wrap64 (bt173.1), wrap64 (bt175.1), ((a2.extract 6 8).toList == ([0, 0] : List UInt8)), a2.extract 8 (t172 : Int).toNat, 0)) else (none)) else (none)) else (none)) else (none)))))))) = some (r1, r2, r3, r4, r5) := H
  have A4 := Aside0.mk A40
  clear A40
  by_cases c5 : t171 = 0
  · rw [if_pos c5] at H
    have c5b0 : (t171 == 0) = true := beq_iff_eq.mpr c5
    have c5b1 : (t171 != 0) = false := bne_eq_false_iff_eq.mpr c5
    clear c5
    simp only [Option.some.injEq, Prod.mk.injEq] at H
    obtain ⟨rfl, rfl, rfl, rfl, rfl⟩ := H
    go_enter Tryd.func14, Tryd.ntmps14
    go_wp2_with (first | ((with_reducible refine gate_dst (N := 6) rfl ?_); refine box_event ?hg (N := 6) ?hd (cs := #[.int .i64 0, .int .i64 0, .bool false, .string (⟨#[]⟩ : ByteArray)]) (t := 26) ?hr ?_; (case hd => rfl); (case hg => rfl); (case hr => first | (go_simp; done) | (go_simp; rfl)); intro gb170 hg w6 hbox hb; have n0_ := Aside0.mk (below_step (by repeat (first | (with_reducible first | exact HB.out | apply below_alloc | apply pw_below_drewN | apply below_drew1) | exact HB.out)) hb); have n1_ := Aside0.mk (hbox); have n2_ := Aside0.mk ((by rw [hg]; exact (below_size (by repeat (first | (with_reducible first | exact HB.out | apply below_alloc | apply pw_below_drewN | apply below_drew1) | exact HB.out))) : w.heap.size ≤ gb170)); have n3_ := Aside0.mk ((by rw [hg]; exact (below_size (by repeat (first | (with_reducible first | exact HB.out | apply below_alloc | apply pw_below_drewN | apply below_drew1) | exact HB.out))) : w.heap.size ≤ gb170)); clear HB; have HB := n0_; have BK170 := n1_; have GW170 := n2_; have GE170 := n3_; clear n0_ n1_ n2_ n3_; clear hb hbox hg) | ((with_reducible refine gate_callee (f := 23) rfl ?_); refine goesL_ (some 18) rfl rfl Tryd.func23 (by kernel_rfl) rfl #[.int .u32 a0, .int .u32 a1, .string a2] rfl (by (try simp only [List.map_toArray, List.map_cons, List.map_nil]); first | done | rfl | (simp only [List.length_drop, List.length_take]; rfl)) ?_; (with_reducible refine (udp_wrong.calls k a0 a1 a2 t171 t172 _ A4.out).mono ?_); rintro e w7 ⟨rfl, hb⟩; refine ⟨_, rfl, ?_⟩; have n0_ := Aside0.mk (blk_below (g := gb170) (o := .cells #[.int .i64 0, .int .i64 0, .bool false, .string (⟨#[]⟩ : ByteArray)] 26 (0, 0)) (by (with_reducible repeat (first | refine blk_drewN ?_ _ | refine blk_drew ?_ | refine blk_alloc ?_ _)); exact BK170.out) hb); have n1_ := Aside0.mk (below_step (by repeat (first | (with_reducible first | exact HB.out | apply below_alloc | apply pw_below_drewN | apply below_drew1 | refine below_set ?_ GE170.out) | exact HB.out)) hb); clear BK170; clear HB; have BK170 := n0_; have HB := n1_; clear n0_ n1_; have hcy1_170_0 := (show World.cell? _ ⟨gb170, 0, none⟩ = some (.int .i64 0) from (blk_cell BK170.out 0).trans rfl); have hcy1_170_1 := (show World.cell? _ ⟨gb170, 1, none⟩ = some (.int .i64 0) from (blk_cell BK170.out 1).trans rfl); have hcy1_170_2 := (show World.cell? _ ⟨gb170, 2, none⟩ = some (.bool false) from (blk_cell BK170.out 2).trans rfl); have hcy1_170_3 := (show World.cell? _ ⟨gb170, 3, none⟩ = some (.string (⟨#[]⟩ : ByteArray)) from (blk_cell BK170.out 3).trans rfl); (try clear hb); (try clear hb2); (try clear hk); (try clear hi); have hcz8_0 : w7.cell? ⟨gb170, 0, none⟩ = some (.int .i64 0) := (blk_cell BK170.out 0).trans rfl; have hcz8_1 : w7.cell? ⟨gb170, 1, none⟩ = some (.int .i64 0) := (blk_cell BK170.out 1).trans rfl; have hcz8_2 : w7.cell? ⟨gb170, 2, none⟩ = some (.bool false) := (blk_cell BK170.out 2).trans rfl; have hcz8_3 : w7.cell? ⟨gb170, 3, none⟩ = some (.string (⟨#[]⟩ : ByteArray)) := (blk_cell BK170.out 3).trans rfl; have hfz8_0 := blk_frozen BK170.out 0; have hfz8_1 := blk_frozen BK170.out 1; have hfz8_2 := blk_frozen BK170.out 2; have hfz8_3 := blk_frozen BK170.out 3))
    refine bodyPost_ret (results_ct rfl _ _ gb170 26 #[.int .i64 0, .int .i64 0, .bool false, .string (⟨#[]⟩ : ByteArray)] (0, 0) _ rfl (by (with_reducible repeat (first | refine blk_drewN ?_ _ | refine blk_drew ?_ | refine blk_alloc ?_ _)); refine blk_put (cs := #[.int .i64 0, .int .i64 0, .bool false, .string (⟨#[]⟩ : ByteArray)]) ?_ 3 _ rfl; (with_reducible repeat (first | refine blk_drewN ?_ _ | refine blk_drew ?_ | refine blk_alloc ?_ _)); refine blk_put (cs := #[.int .i64 0, .int .i64 0, .bool false, .string (⟨#[]⟩ : ByteArray)]) ?_ 2 _ rfl; (with_reducible repeat (first | refine blk_drewN ?_ _ | refine blk_drew ?_ | refine blk_alloc ?_ _)); refine blk_put (cs := #[.int .i64 0, .int .i64 0, .bool false, .string (⟨#[]⟩ : ByteArray)]) ?_ 1 _ rfl; (with_reducible repeat (first | refine blk_drewN ?_ _ | refine blk_drew ?_ | refine blk_alloc ?_ _)); refine blk_put (cs := #[.int .i64 0, .int .i64 0, .bool false, .string (⟨#[]⟩ : ByteArray)]) ?_ 0 _ rfl; (with_reducible repeat (first | refine blk_drewN ?_ _ | refine blk_drew ?_ | refine blk_alloc ?_ _)); exact BK170.out) Tryd.underlying26 rfl (by kernel_rfl)) rfl ?_
    exact ⟨by first | rfl | (simp [errW_none, errW_some] <;> rfl) | (simp [*, errW_none, errW_some] <;> rfl) | (simp [*, IntKind.wrap_u32]; done) | (simp_all [IntKind.wrap_u32]; done), by repeat (first | (with_reducible first | exact HB.out | apply below_alloc | apply pw_below_drewN | apply below_drew1 | refine below_set ?_ GE170.out) | exact HB.out)⟩
  · rw [if_neg c5] at H
    have c5b0 : (t171 == 0) = false := beq_eq_false_iff_ne.mpr c5
    have c5b1 : (t171 != 0) = true := bne_iff_ne.mpr c5
    by_cases c9 : t171 = 2
    · rw [if_pos c9] at H
      have c9b0 : (t171 == 2) = true := beq_iff_eq.mpr c9
      have c9b1 : (t171 != 2) = false := bne_eq_false_iff_eq.mpr c9
      clear c9
      simp only [Option.some.injEq, Prod.mk.injEq] at H
      obtain ⟨rfl, rfl, rfl, rfl, rfl⟩ := H
      go_enter Tryd.func14, Tryd.ntmps14
      go_wp2_with (first | ((with_reducible refine gate_dst (N := 6) rfl ?_); refine box_event ?hg (N := 6) ?hd (cs := #[.int .i64 0, .int .i64 0, .bool false, .string (⟨#[]⟩ : ByteArray)]) (t := 26) ?hr ?_; (case hd => rfl); (case hg => rfl); (case hr => first | (go_simp; done) | (go_simp; rfl)); intro gb170 hg w10 hbox hb; have n0_ := Aside0.mk (below_step (by repeat (first | (with_reducible first | exact HB.out | apply below_alloc | apply pw_below_drewN | apply below_drew1) | exact HB.out)) hb); have n1_ := Aside0.mk (hbox); have n2_ := Aside0.mk ((by rw [hg]; exact (below_size (by repeat (first | (with_reducible first | exact HB.out | apply below_alloc | apply pw_below_drewN | apply below_drew1) | exact HB.out))) : w.heap.size ≤ gb170)); have n3_ := Aside0.mk ((by rw [hg]; exact (below_size (by repeat (first | (with_reducible first | exact HB.out | apply below_alloc | apply pw_below_drewN | apply below_drew1) | exact HB.out))) : w.heap.size ≤ gb170)); clear HB; have HB := n0_; have BK170 := n1_; have GW170 := n2_; have GE170 := n3_; clear n0_ n1_ n2_ n3_; clear hb hbox hg) | ((with_reducible refine gate_callee (f := 23) rfl ?_); refine goesL_ (some 18) rfl rfl Tryd.func23 (by kernel_rfl) rfl #[.int .u32 a0, .int .u32 a1, .string a2] rfl (by (try simp only [List.map_toArray, List.map_cons, List.map_nil]); first | done | rfl | (simp only [List.length_drop, List.length_take]; rfl)) ?_; (with_reducible refine (udp_wrong.calls k a0 a1 a2 t171 t172 _ A4.out).mono ?_); rintro e w11 ⟨rfl, hb⟩; refine ⟨_, rfl, ?_⟩; have n0_ := Aside0.mk (blk_below (g := gb170) (o := .cells #[.int .i64 0, .int .i64 0, .bool false, .string (⟨#[]⟩ : ByteArray)] 26 (0, 0)) (by (with_reducible repeat (first | refine blk_drewN ?_ _ | refine blk_drew ?_ | refine blk_alloc ?_ _)); exact BK170.out) hb); have n1_ := Aside0.mk (below_step (by repeat (first | (with_reducible first | exact HB.out | apply below_alloc | apply pw_below_drewN | apply below_drew1 | refine below_set ?_ GE170.out) | exact HB.out)) hb); clear BK170; clear HB; have BK170 := n0_; have HB := n1_; clear n0_ n1_; have hcy1_170_0 := (show World.cell? _ ⟨gb170, 0, none⟩ = some (.int .i64 0) from (blk_cell BK170.out 0).trans rfl); have hcy1_170_1 := (show World.cell? _ ⟨gb170, 1, none⟩ = some (.int .i64 0) from (blk_cell BK170.out 1).trans rfl); have hcy1_170_2 := (show World.cell? _ ⟨gb170, 2, none⟩ = some (.bool false) from (blk_cell BK170.out 2).trans rfl); have hcy1_170_3 := (show World.cell? _ ⟨gb170, 3, none⟩ = some (.string (⟨#[]⟩ : ByteArray)) from (blk_cell BK170.out 3).trans rfl); (try clear hb); (try clear hb2); (try clear hk); (try clear hi); have hcz12_0 : w11.cell? ⟨gb170, 0, none⟩ = some (.int .i64 0) := (blk_cell BK170.out 0).trans rfl; have hcz12_1 : w11.cell? ⟨gb170, 1, none⟩ = some (.int .i64 0) := (blk_cell BK170.out 1).trans rfl; have hcz12_2 : w11.cell? ⟨gb170, 2, none⟩ = some (.bool false) := (blk_cell BK170.out 2).trans rfl; have hcz12_3 : w11.cell? ⟨gb170, 3, none⟩ = some (.string (⟨#[]⟩ : ByteArray)) := (blk_cell BK170.out 3).trans rfl; have hfz12_0 := blk_frozen BK170.out 0; have hfz12_1 := blk_frozen BK170.out 1; have hfz12_2 := blk_frozen BK170.out 2; have hfz12_3 := blk_frozen BK170.out 3))
      refine bodyPost_ret (results_ct rfl _ _ gb170 26 #[.int .i64 0, .int .i64 0, .bool false, .string (⟨#[]⟩ : ByteArray)] (0, 0) _ rfl (by (with_reducible repeat (first | refine blk_drewN ?_ _ | refine blk_drew ?_ | refine blk_alloc ?_ _)); refine blk_put (cs := #[.int .i64 0, .int .i64 0, .bool false, .string (⟨#[]⟩ : ByteArray)]) ?_ 3 _ rfl; (with_reducible repeat (first | refine blk_drewN ?_ _ | refine blk_drew ?_ | refine blk_alloc ?_ _)); refine blk_put (cs := #[.int .i64 0, .int .i64 0, .bool false, .string (⟨#[]⟩ : ByteArray)]) ?_ 2 _ rfl; (with_reducible repeat (first | refine blk_drewN ?_ _ | refine blk_drew ?_ | refine blk_alloc ?_ _)); refine blk_put (cs := #[.int .i64 0, .int .i64 0, .bool false, .string (⟨#[]⟩ : ByteArray)]) ?_ 1 _ rfl; (with_reducible repeat (first | refine blk_drewN ?_ _ | refine blk_drew ?_ | refine blk_alloc ?_ _)); refine blk_put (cs := #[.int .i64 0, .int .i64 0, .bool false, .string (⟨#[]⟩ : ByteArray)]) ?_ 0 _ rfl; (with_reducible repeat (first | refine blk_drewN ?_ _ | refine blk_drew ?_ | refine blk_alloc ?_ _)); exact BK170.out) Tryd.underlying26 rfl (by kernel_rfl)) rfl ?_
      exact ⟨by first | rfl | (simp [errW_none, errW_some] <;> rfl) | (simp [*, errW_none, errW_some] <;> rfl) | (simp [*, IntKind.wrap_u32]; done) | (simp_all [IntKind.wrap_u32]; done), by repeat (first | (with_reducible first | exact HB.out | apply below_alloc | apply pw_below_drewN | apply below_drew1 | refine below_set ?_ GE170.out) | exact HB.out)⟩
    · rw [if_neg c9] at H
      have c9b0 : (t171 == 2) = false := beq_eq_false_iff_ne.mpr c9
      have c9b1 : (t171 != 2) = true := bne_iff_ne.mpr c9
      by_cases c13 : t171 = 1
      · rw [if_pos c13] at H
        have c13b0 : (t171 == 1) = true := beq_iff_eq.mpr c13
        have c13b1 : (t171 != 1) = false := bne_eq_false_iff_eq.mpr c13
        clear c13
        simp only [Option.some.injEq, Prod.mk.injEq] at H
        obtain ⟨rfl, rfl, rfl, rfl, rfl⟩ := H
        go_enter Tryd.func14, Tryd.ntmps14
        go_wp2_with (first | ((with_reducible refine gate_dst (N := 6) rfl ?_); refine box_event ?hg (N := 6) ?hd (cs := #[.int .i64 0, .int .i64 0, .bool false, .string (⟨#[]⟩ : ByteArray)]) (t := 26) ?hr ?_; (case hd => rfl); (case hg => rfl); (case hr => first | (go_simp; done) | (go_simp; rfl)); intro gb170 hg w14 hbox hb; have n0_ := Aside0.mk (below_step (by repeat (first | (with_reducible first | exact HB.out | apply below_alloc | apply pw_below_drewN | apply below_drew1) | exact HB.out)) hb); have n1_ := Aside0.mk (hbox); have n2_ := Aside0.mk ((by rw [hg]; exact (below_size (by repeat (first | (with_reducible first | exact HB.out | apply below_alloc | apply pw_below_drewN | apply below_drew1) | exact HB.out))) : w.heap.size ≤ gb170)); have n3_ := Aside0.mk ((by rw [hg]; exact (below_size (by repeat (first | (with_reducible first | exact HB.out | apply below_alloc | apply pw_below_drewN | apply below_drew1) | exact HB.out))) : w.heap.size ≤ gb170)); clear HB; have HB := n0_; have BK170 := n1_; have GW170 := n2_; have GE170 := n3_; clear n0_ n1_ n2_ n3_; clear hb hbox hg) | ((with_reducible refine gate_callee (f := 23) rfl ?_); refine goesL_ (some 18) rfl rfl Tryd.func23 (by kernel_rfl) rfl #[.int .u32 a0, .int .u32 a1, .string a2] rfl (by (try simp only [List.map_toArray, List.map_cons, List.map_nil]); first | done | rfl | (simp only [List.length_drop, List.length_take]; rfl)) ?_; (with_reducible refine (udp_wrong.calls k a0 a1 a2 t171 t172 _ A4.out).mono ?_); rintro e w15 ⟨rfl, hb⟩; refine ⟨_, rfl, ?_⟩; have n0_ := Aside0.mk (blk_below (g := gb170) (o := .cells #[.int .i64 0, .int .i64 0, .bool false, .string (⟨#[]⟩ : ByteArray)] 26 (0, 0)) (by (with_reducible repeat (first | refine blk_drewN ?_ _ | refine blk_drew ?_ | refine blk_alloc ?_ _)); exact BK170.out) hb); have n1_ := Aside0.mk (below_step (by repeat (first | (with_reducible first | exact HB.out | apply below_alloc | apply pw_below_drewN | apply below_drew1 | refine below_set ?_ GE170.out) | exact HB.out)) hb); clear BK170; clear HB; have BK170 := n0_; have HB := n1_; clear n0_ n1_; have hcy1_170_0 := (show World.cell? _ ⟨gb170, 0, none⟩ = some (.int .i64 0) from (blk_cell BK170.out 0).trans rfl); have hcy1_170_1 := (show World.cell? _ ⟨gb170, 1, none⟩ = some (.int .i64 0) from (blk_cell BK170.out 1).trans rfl); have hcy1_170_2 := (show World.cell? _ ⟨gb170, 2, none⟩ = some (.bool false) from (blk_cell BK170.out 2).trans rfl); have hcy1_170_3 := (show World.cell? _ ⟨gb170, 3, none⟩ = some (.string (⟨#[]⟩ : ByteArray)) from (blk_cell BK170.out 3).trans rfl); (try clear hb); (try clear hb2); (try clear hk); (try clear hi); have hcz16_0 : w15.cell? ⟨gb170, 0, none⟩ = some (.int .i64 0) := (blk_cell BK170.out 0).trans rfl; have hcz16_1 : w15.cell? ⟨gb170, 1, none⟩ = some (.int .i64 0) := (blk_cell BK170.out 1).trans rfl; have hcz16_2 : w15.cell? ⟨gb170, 2, none⟩ = some (.bool false) := (blk_cell BK170.out 2).trans rfl; have hcz16_3 : w15.cell? ⟨gb170, 3, none⟩ = some (.string (⟨#[]⟩ : ByteArray)) := (blk_cell BK170.out 3).trans rfl; have hfz16_0 := blk_frozen BK170.out 0; have hfz16_1 := blk_frozen BK170.out 1; have hfz16_2 := blk_frozen BK170.out 2; have hfz16_3 := blk_frozen BK170.out 3))
        refine bodyPost_ret (results_ct rfl _ _ gb170 26 #[.int .i64 0, .int .i64 0, .bool false, .string (⟨#[]⟩ : ByteArray)] (0, 0) _ rfl (by (with_reducible repeat (first | refine blk_drewN ?_ _ | refine blk_drew ?_ | refine blk_alloc ?_ _)); refine blk_put (cs := #[.int .i64 0, .int .i64 0, .bool false, .string (⟨#[]⟩ : ByteArray)]) ?_ 3 _ rfl; (with_reducible repeat (first | refine blk_drewN ?_ _ | refine blk_drew ?_ | refine blk_alloc ?_ _)); refine blk_put (cs := #[.int .i64 0, .int .i64 0, .bool false, .string (⟨#[]⟩ : ByteArray)]) ?_ 2 _ rfl; (with_reducible repeat (first | refine blk_drewN ?_ _ | refine blk_drew ?_ | refine blk_alloc ?_ _)); refine blk_put (cs := #[.int .i64 0, .int .i64 0, .bool false, .string (⟨#[]⟩ : ByteArray)]) ?_ 1 _ rfl; (with_reducible repeat (first | refine blk_drewN ?_ _ | refine blk_drew ?_ | refine blk_alloc ?_ _)); refine blk_put (cs := #[.int .i64 0, .int .i64 0, .bool false, .string (⟨#[]⟩ : ByteArray)]) ?_ 0 _ rfl; (with_reducible repeat (first | refine blk_drewN ?_ _ | refine blk_drew ?_ | refine blk_alloc ?_ _)); exact BK170.out) Tryd.underlying26 rfl (by kernel_rfl)) rfl ?_
        exact ⟨by first | rfl | (simp [errW_none, errW_some] <;> rfl) | (simp [*, errW_none, errW_some] <;> rfl) | (simp [*, IntKind.wrap_u32]; done) | (simp_all [IntKind.wrap_u32]; done), by repeat (first | (with_reducible first | exact HB.out | apply below_alloc | apply pw_below_drewN | apply below_drew1 | refine below_set ?_ GE170.out) | exact HB.out)⟩
      · rw [if_neg c13] at H
        have c13b0 : (t171 == 1) = false := beq_eq_false_iff_ne.mpr c13
        have c13b1 : (t171 != 1) = true := bne_iff_ne.mpr c13
        by_cases c17 : t171 = 3
        · rw [if_pos c17] at H
          have c17b0 : (t171 == 3) = true := beq_iff_eq.mpr c17
          have c17b1 : (t171 != 3) = false := bne_eq_false_iff_eq.mpr c17
          clear c17
          simp only [Option.some.injEq, Prod.mk.injEq] at H
          obtain ⟨rfl, rfl, rfl, rfl, rfl⟩ := H
          go_enter Tryd.func14, Tryd.ntmps14
          go_wp2_with (first | ((with_reducible refine gate_dst (N := 6) rfl ?_); refine box_event ?hg (N := 6) ?hd (cs := #[.int .i64 0, .int .i64 0, .bool false, .string (⟨#[]⟩ : ByteArray)]) (t := 26) ?hr ?_; (case hd => rfl); (case hg => rfl); (case hr => first | (go_simp; done) | (go_simp; rfl)); intro gb170 hg w18 hbox hb; have n0_ := Aside0.mk (below_step (by repeat (first | (with_reducible first | exact HB.out | apply below_alloc | apply pw_below_drewN | apply below_drew1) | exact HB.out)) hb); have n1_ := Aside0.mk (hbox); have n2_ := Aside0.mk ((by rw [hg]; exact (below_size (by repeat (first | (with_reducible first | exact HB.out | apply below_alloc | apply pw_below_drewN | apply below_drew1) | exact HB.out))) : w.heap.size ≤ gb170)); have n3_ := Aside0.mk ((by rw [hg]; exact (below_size (by repeat (first | (with_reducible first | exact HB.out | apply below_alloc | apply pw_below_drewN | apply below_drew1) | exact HB.out))) : w.heap.size ≤ gb170)); clear HB; have HB := n0_; have BK170 := n1_; have GW170 := n2_; have GE170 := n3_; clear n0_ n1_ n2_ n3_; clear hb hbox hg) | ((with_reducible refine gate_callee (f := 23) rfl ?_); refine goesL_ (some 18) rfl rfl Tryd.func23 (by kernel_rfl) rfl #[.int .u32 a0, .int .u32 a1, .string a2] rfl (by (try simp only [List.map_toArray, List.map_cons, List.map_nil]); first | done | rfl | (simp only [List.length_drop, List.length_take]; rfl)) ?_; (with_reducible refine (udp_wrong.calls k a0 a1 a2 t171 t172 _ A4.out).mono ?_); rintro e w19 ⟨rfl, hb⟩; refine ⟨_, rfl, ?_⟩; have n0_ := Aside0.mk (blk_below (g := gb170) (o := .cells #[.int .i64 0, .int .i64 0, .bool false, .string (⟨#[]⟩ : ByteArray)] 26 (0, 0)) (by (with_reducible repeat (first | refine blk_drewN ?_ _ | refine blk_drew ?_ | refine blk_alloc ?_ _)); exact BK170.out) hb); have n1_ := Aside0.mk (below_step (by repeat (first | (with_reducible first | exact HB.out | apply below_alloc | apply pw_below_drewN | apply below_drew1 | refine below_set ?_ GE170.out) | exact HB.out)) hb); clear BK170; clear HB; have BK170 := n0_; have HB := n1_; clear n0_ n1_; have hcy1_170_0 := (show World.cell? _ ⟨gb170, 0, none⟩ = some (.int .i64 0) from (blk_cell BK170.out 0).trans rfl); have hcy1_170_1 := (show World.cell? _ ⟨gb170, 1, none⟩ = some (.int .i64 0) from (blk_cell BK170.out 1).trans rfl); have hcy1_170_2 := (show World.cell? _ ⟨gb170, 2, none⟩ = some (.bool false) from (blk_cell BK170.out 2).trans rfl); have hcy1_170_3 := (show World.cell? _ ⟨gb170, 3, none⟩ = some (.string (⟨#[]⟩ : ByteArray)) from (blk_cell BK170.out 3).trans rfl); (try clear hb); (try clear hb2); (try clear hk); (try clear hi); have hcz20_0 : w19.cell? ⟨gb170, 0, none⟩ = some (.int .i64 0) := (blk_cell BK170.out 0).trans rfl; have hcz20_1 : w19.cell? ⟨gb170, 1, none⟩ = some (.int .i64 0) := (blk_cell BK170.out 1).trans rfl; have hcz20_2 : w19.cell? ⟨gb170, 2, none⟩ = some (.bool false) := (blk_cell BK170.out 2).trans rfl; have hcz20_3 : w19.cell? ⟨gb170, 3, none⟩ = some (.string (⟨#[]⟩ : ByteArray)) := (blk_cell BK170.out 3).trans rfl; have hfz20_0 := blk_frozen BK170.out 0; have hfz20_1 := blk_frozen BK170.out 1; have hfz20_2 := blk_frozen BK170.out 2; have hfz20_3 := blk_frozen BK170.out 3))
          refine bodyPost_ret (results_ct rfl _ _ gb170 26 #[.int .i64 0, .int .i64 0, .bool false, .string (⟨#[]⟩ : ByteArray)] (0, 0) _ rfl (by (with_reducible repeat (first | refine blk_drewN ?_ _ | refine blk_drew ?_ | refine blk_alloc ?_ _)); refine blk_put (cs := #[.int .i64 0, .int .i64 0, .bool false, .string (⟨#[]⟩ : ByteArray)]) ?_ 3 _ rfl; (with_reducible repeat (first | refine blk_drewN ?_ _ | refine blk_drew ?_ | refine blk_alloc ?_ _)); refine blk_put (cs := #[.int .i64 0, .int .i64 0, .bool false, .string (⟨#[]⟩ : ByteArray)]) ?_ 2 _ rfl; (with_reducible repeat (first | refine blk_drewN ?_ _ | refine blk_drew ?_ | refine blk_alloc ?_ _)); refine blk_put (cs := #[.int .i64 0, .int .i64 0, .bool false, .string (⟨#[]⟩ : ByteArray)]) ?_ 1 _ rfl; (with_reducible repeat (first | refine blk_drewN ?_ _ | refine blk_drew ?_ | refine blk_alloc ?_ _)); refine blk_put (cs := #[.int .i64 0, .int .i64 0, .bool false, .string (⟨#[]⟩ : ByteArray)]) ?_ 0 _ rfl; (with_reducible repeat (first | refine blk_drewN ?_ _ | refine blk_drew ?_ | refine blk_alloc ?_ _)); exact BK170.out) Tryd.underlying26 rfl (by kernel_rfl)) rfl ?_
          exact ⟨by first | rfl | (simp [errW_none, errW_some] <;> rfl) | (simp [*, errW_none, errW_some] <;> rfl) | (simp [*, IntKind.wrap_u32]; done) | (simp_all [IntKind.wrap_u32]; done), by repeat (first | (with_reducible first | exact HB.out | apply below_alloc | apply pw_below_drewN | apply below_drew1 | refine below_set ?_ GE170.out) | exact HB.out)⟩
        · rw [if_neg c17] at H
          have c17b0 : (t171 == 3) = false := beq_eq_false_iff_ne.mpr c17
          have c17b1 : (t171 != 3) = true := bne_iff_ne.mpr c17
          replace H := Option.bind_eq_some_iff.mp H
          obtain ⟨⟨t173, t174⟩, A210, H⟩ := H
          replace H : ((octets_Get.f k a2 2 2).bind fun bt175 => (if 6 ≤ 8 then (if 8 ≤ (a2.size : Int) then (if 8 ≤ t172 then (if t172 ≤ (a2.size : Int) then (some (wrap64 (t173), wrap64 (bt175.1), ((a2.extract 6 8).toList == ([0, 0] : List UInt8)), a2.extract 8 (t172 : Int).toNat, 0)) else (none)) else (none)) else (none)) else (none))) = some (r1, r2, r3, r4, r5) := H
          have A21 := Aside0.mk A210
          clear A210
          replace H := Option.bind_eq_some_iff.mp H
          obtain ⟨⟨t175, t176⟩, A220, H⟩ := H
          replace H : (if 6 ≤ 8 then (if 8 ≤ (a2.size : Int) then (if 8 ≤ t172 then (if t172 ≤ (a2.size : Int) then (some (wrap64 (t173), wrap64 (t175), ((a2.extract 6 8).toList == ([0, 0] : List UInt8)), a2.extract 8 (t172 : Int).toNat, 0)) else (none)) else (none)) else (none)) else (none)) = some (r1, r2, r3, r4, r5) := H
          have A22 := Aside0.mk A220
          clear A220
          by_cases c23 : 6 ≤ 8
          · rw [if_pos c23] at H
            have c23b0 := eq_true c23
            have c23b1 : decide (6 ≤ 8) = true := decide_eq_true c23
            clear c23
            by_cases c24 : 8 ≤ (a2.size : Int)
            · rw [if_pos c24] at H
              have c24b0 := eq_true c24
              have c24b1 : decide (8 ≤ (a2.size : Int)) = true := decide_eq_true c24
              clear c24
              by_cases c25 : 8 ≤ t172
              · rw [if_pos c25] at H
                have c25b0 := eq_true c25
                have c25b1 : decide (8 ≤ t172) = true := decide_eq_true c25
                clear c25
                by_cases c26 : t172 ≤ (a2.size : Int)
                · rw [if_pos c26] at H
                  have c26b0 := eq_true c26
                  have c26b1 : decide (t172 ≤ (a2.size : Int)) = true := decide_eq_true c26
                  clear c26
                  simp only [Option.some.injEq, Prod.mk.injEq] at H
                  obtain ⟨rfl, rfl, rfl, rfl, rfl⟩ := H
                  go_enter Tryd.func14, Tryd.ntmps14
                  try go_wp2_with (first | ((with_reducible refine gate_dst (N := 6) rfl ?_); refine box_event ?hg (N := 6) ?hd (cs := #[.int .i64 0, .int .i64 0, .bool false, .string (⟨#[]⟩ : ByteArray)]) (t := 26) ?hr ?_; (case hd => rfl); (case hg => rfl); (case hr => first | (go_simp; done) | (go_simp; rfl)); intro gb170 hg w27 hbox hb; have n0_ := Aside0.mk (below_step (by repeat (first | (with_reducible first | exact HB.out | apply below_alloc | apply pw_below_drewN | apply below_drew1) | exact HB.out)) hb); have n1_ := Aside0.mk (hbox); have n2_ := Aside0.mk ((by rw [hg]; exact (below_size (by repeat (first | (with_reducible first | exact HB.out | apply below_alloc | apply pw_below_drewN | apply below_drew1) | exact HB.out))) : w.heap.size ≤ gb170)); have n3_ := Aside0.mk ((by rw [hg]; exact (below_size (by repeat (first | (with_reducible first | exact HB.out | apply below_alloc | apply pw_below_drewN | apply below_drew1) | exact HB.out))) : w.heap.size ≤ gb170)); clear HB; have HB := n0_; have BK170 := n1_; have GW170 := n2_; have GE170 := n3_; clear n0_ n1_ n2_ n3_; clear hb hbox hg) | ((with_reducible refine gate_callee (f := 23) rfl ?_); refine goesL_ (some 18) rfl rfl Tryd.func23 (by kernel_rfl) rfl #[.int .u32 a0, .int .u32 a1, .string a2] rfl (by (try simp only [List.map_toArray, List.map_cons, List.map_nil]); first | done | rfl | (simp only [List.length_drop, List.length_take]; rfl)) ?_; (with_reducible refine (udp_wrong.calls k a0 a1 a2 t171 t172 _ A4.out).mono ?_); rintro e w28 ⟨rfl, hb⟩; refine ⟨_, rfl, ?_⟩; have n0_ := Aside0.mk (blk_below (g := gb170) (o := .cells #[.int .i64 0, .int .i64 0, .bool false, .string (⟨#[]⟩ : ByteArray)] 26 (0, 0)) (by (with_reducible repeat (first | refine blk_drewN ?_ _ | refine blk_drew ?_ | refine blk_alloc ?_ _)); exact BK170.out) hb); have n1_ := Aside0.mk (below_step (by repeat (first | (with_reducible first | exact HB.out | apply below_alloc | apply pw_below_drewN | apply below_drew1 | refine below_set ?_ GE170.out) | exact HB.out)) hb); clear BK170; clear HB; have BK170 := n0_; have HB := n1_; clear n0_ n1_; have hcy1_170_0 := (show World.cell? _ ⟨gb170, 0, none⟩ = some (.int .i64 0) from (blk_cell BK170.out 0).trans rfl); have hcy1_170_1 := (show World.cell? _ ⟨gb170, 1, none⟩ = some (.int .i64 0) from (blk_cell BK170.out 1).trans rfl); have hcy1_170_2 := (show World.cell? _ ⟨gb170, 2, none⟩ = some (.bool false) from (blk_cell BK170.out 2).trans rfl); have hcy1_170_3 := (show World.cell? _ ⟨gb170, 3, none⟩ = some (.string (⟨#[]⟩ : ByteArray)) from (blk_cell BK170.out 3).trans rfl); (try clear hb); (try clear hb2); (try clear hk); (try clear hi)) | ((with_reducible refine gate_callee (f := 24) rfl ?_); refine goesL_ (some 35) rfl rfl Tryd.func24 (by kernel_rfl) rfl #[.string a2, .int .i64 0, .int .i64 2] rfl (by (try simp only [List.map_toArray, List.map_cons, List.map_nil]); first | done | rfl | (simp only [List.length_drop, List.length_take]; rfl)) ?_; (with_reducible refine (octets_Get.calls k a2 0 2 t173 t174 _ A21.out).mono ?_); rintro e w29 ⟨rfl, hb⟩; refine ⟨_, rfl, ?_⟩; have n0_ := Aside0.mk (blk_below (g := gb170) (o := .cells #[.int .i64 0, .int .i64 0, .bool false, .string (⟨#[]⟩ : ByteArray)] 26 (0, 0)) (by (with_reducible repeat (first | refine blk_drewN ?_ _ | refine blk_drew ?_ | refine blk_alloc ?_ _)); exact BK170.out) hb); have n1_ := Aside0.mk (below_step (by repeat (first | (with_reducible first | exact HB.out | apply below_alloc | apply pw_below_drewN | apply below_drew1 | refine below_set ?_ GE170.out) | exact HB.out)) hb); clear BK170; clear HB; have BK170 := n0_; have HB := n1_; clear n0_ n1_; have hcy2_170_0 := (show World.cell? _ ⟨gb170, 0, none⟩ = some (.int .i64 0) from (blk_cell BK170.out 0).trans rfl); have hcy2_170_1 := (show World.cell? _ ⟨gb170, 1, none⟩ = some (.int .i64 0) from (blk_cell BK170.out 1).trans rfl); have hcy2_170_2 := (show World.cell? _ ⟨gb170, 2, none⟩ = some (.bool false) from (blk_cell BK170.out 2).trans rfl); have hcy2_170_3 := (show World.cell? _ ⟨gb170, 3, none⟩ = some (.string (⟨#[]⟩ : ByteArray)) from (blk_cell BK170.out 3).trans rfl); (try clear hb); (try clear hb2); (try clear hk); (try clear hi)) | ((with_reducible refine gate_callee (f := 24) rfl ?_); refine goesL_ (some 40) rfl rfl Tryd.func24 (by kernel_rfl) rfl #[.string a2, .int .i64 2, .int .i64 2] rfl (by (try simp only [List.map_toArray, List.map_cons, List.map_nil]); first | done | rfl | (simp only [List.length_drop, List.length_take]; rfl)) ?_; (with_reducible refine (octets_Get.calls k a2 2 2 t175 t176 _ A22.out).mono ?_); rintro e w30 ⟨rfl, hb⟩; refine ⟨_, rfl, ?_⟩; have n0_ := Aside0.mk (blk_below (g := gb170) (o := .cells #[.int .i64 0, .int .i64 0, .bool false, .string (⟨#[]⟩ : ByteArray)] 26 (0, 0)) (by (with_reducible repeat (first | refine blk_drewN ?_ _ | refine blk_drew ?_ | refine blk_alloc ?_ _)); exact BK170.out) hb); have n1_ := Aside0.mk (below_step (by repeat (first | (with_reducible first | exact HB.out | apply below_alloc | apply pw_below_drewN | apply below_drew1 | refine below_set ?_ GE170.out) | exact HB.out)) hb); clear BK170; clear HB; have BK170 := n0_; have HB := n1_; clear n0_ n1_; have hcy3_170_0 := (show World.cell? _ ⟨gb170, 0, none⟩ = some (.int .i64 0) from (blk_cell BK170.out 0).trans rfl); have hcy3_170_1 := (show World.cell? _ ⟨gb170, 1, none⟩ = some (.int .i64 0) from (blk_cell BK170.out 1).trans rfl); have hcy3_170_2 := (show World.cell? _ ⟨gb170, 2, none⟩ = some (.bool false) from (blk_cell BK170.out 2).trans rfl); have hcy3_170_3 := (show World.cell? _ ⟨gb170, 3, none⟩ = some (.string (⟨#[]⟩ : ByteArray)) from (blk_cell BK170.out 3).trans rfl); (try clear hb); (try clear hb2); (try clear hk); (try clear hi)))
                  have n0_ := Aside0.mk (blk_drew BK170.out)
                  have n1_ := Aside0.mk (below_drew1 HB.out)
                  clear BK170
                  clear HB
                  have BK170 := n0_
                  have HB := n1_
                  clear n0_ n1_
                  refine start_ (n := 13) (S := fun w' => True) (ds := []) #[false, false, false, false, false, false, false, false, false, false, false, false, false] (by kernel_rfl) rfl rfl trivial (fun hHeld => ?_); refine with_tabW udp_Parse.tab12 udp_Parse.bits12 (fun HT_ HW_ => ?_)
                  generalize w30.drew = w31 at BK170 HB hHeld ⊢
                  refine pure_ (i := 0) (N := some 43) (v := ?_) (a' := ?_) #[true, false, false, false, false, false, false, false, false, false, false, false, false] rfl rfl (any_of HT_.out (by kernel_rfl)) (fun _ _ _ h => h) (Or.inl ⟨by rfl, ?_⟩) ?_ ?_
                  rotate_left
                  · intro w'
                    go_simp
                    first | with_reducible rfl | (rw [if_neg (by have hz0_ : (⟨#[]⟩ : ByteArray).size = 0 := rfl; (try simp only [decide_eq_true_eq, ByteArray.size_append, ByteArray.size_extract, eq_iff_iff, iff_true, iff_false, Nat.not_lt] at *); omega)]; try with_reducible rfl)
                  rotate_left
                  · simp only [Act.put, List.setIfInBounds_toArray, List.set_cons_zero, List.set_cons_succ, i64_w, i32_w]
                    rfl
                  refine pure_ (i := 1) (N := some 44) (v := ?_) (a' := ?_) #[true, true, false, false, false, false, false, false, false, false, false, false, false] rfl rfl (any_of HT_.out (by kernel_rfl)) (fun _ _ _ h => h) (Or.inl ⟨by rfl, ?_⟩) ?_ ?_
                  rotate_left
                  · intro w'
                    go_simp
                    first | with_reducible rfl | (rw [if_neg (by have hz0_ : (⟨#[]⟩ : ByteArray).size = 0 := rfl; (try simp only [decide_eq_true_eq, ByteArray.size_append, ByteArray.size_extract, eq_iff_iff, iff_true, iff_false, Nat.not_lt] at *); omega)]; try with_reducible rfl)
                  rotate_left
                  · simp only [Act.put, List.setIfInBounds_toArray, List.set_cons_zero, List.set_cons_succ, i64_w, i32_w]
                    rfl
                  refine pure_ (i := 2) (N := some 45) (v := ?_) (a' := ?_) #[true, true, true, false, false, false, false, false, false, false, false, false, false] rfl rfl (any_of HT_.out (by kernel_rfl)) (fun _ _ _ h => h) (Or.inl ⟨by rfl, ?_⟩) ?_ ?_
                  rotate_left
                  · intro w'
                    go_simp
                    first | with_reducible rfl | (rw [if_neg (by have hz0_ : (⟨#[]⟩ : ByteArray).size = 0 := rfl; (try simp only [decide_eq_true_eq, ByteArray.size_append, ByteArray.size_extract, eq_iff_iff, iff_true, iff_false, Nat.not_lt] at *); omega)]; try with_reducible rfl)
                  rotate_left
                  · simp only [Act.put, List.setIfInBounds_toArray, List.set_cons_zero, List.set_cons_succ, i64_w, i32_w]
                    rfl
                  refine pure_ (i := 3) (N := some 46) (v := ?_) (a' := ?_) #[true, true, true, true, false, false, false, false, false, false, false, false, false] rfl rfl (any_of HT_.out (by kernel_rfl)) (fun _ _ _ h => h) (Or.inl ⟨by rfl, ?_⟩) ?_ ?_
                  rotate_left
                  · intro w'
                    go_simp
                    first | with_reducible rfl | (rw [if_neg (by have hz0_ : (⟨#[]⟩ : ByteArray).size = 0 := rfl; (try simp only [decide_eq_true_eq, ByteArray.size_append, ByteArray.size_extract, eq_iff_iff, iff_true, iff_false, Nat.not_lt] at *); omega)]; try with_reducible rfl)
                  rotate_left
                  · simp only [Act.put, List.setIfInBounds_toArray, List.set_cons_zero, List.set_cons_succ, i64_w, i32_w]
                    rfl
                  refine pure_ (i := 4) (N := some 47) (v := ?_) (a' := ?_) #[true, true, true, true, true, false, false, false, false, false, false, false, false] rfl rfl (any_of HT_.out (by kernel_rfl)) (fun _ _ _ h => h) (Or.inl ⟨by rfl, ?_⟩) ?_ ?_
                  rotate_left
                  · intro w'
                    go_simp
                    first | with_reducible rfl | (rw [if_neg (by have hz0_ : (⟨#[]⟩ : ByteArray).size = 0 := rfl; (try simp only [decide_eq_true_eq, ByteArray.size_append, ByteArray.size_extract, eq_iff_iff, iff_true, iff_false, Nat.not_lt] at *); omega)]; try with_reducible rfl)
                  rotate_left
                  · simp only [Act.put, List.setIfInBounds_toArray, List.set_cons_zero, List.set_cons_succ, i64_w, i32_w]
                    rfl
                  refine pure_ (i := 5) (N := some 48) (v := ?_) (a' := ?_) #[true, true, true, true, true, true, false, false, false, false, false, false, false] rfl rfl (any_of HT_.out (by kernel_rfl)) (fun _ _ _ h => h) (Or.inl ⟨by rfl, ?_⟩) ?_ ?_
                  rotate_left
                  · intro w'
                    go_simp
                    first | with_reducible rfl | (rw [if_neg (by have hz0_ : (⟨#[]⟩ : ByteArray).size = 0 := rfl; (try simp only [decide_eq_true_eq, ByteArray.size_append, ByteArray.size_extract, eq_iff_iff, iff_true, iff_false, Nat.not_lt] at *); omega)]; try with_reducible rfl)
                  rotate_left
                  · simp only [Act.put, List.setIfInBounds_toArray, List.set_cons_zero, List.set_cons_succ, i64_w, i32_w]
                    rfl
                  refine pure_ (i := 6) (N := some 49) (v := ?_) (a' := ?_) #[true, true, true, true, true, true, true, false, false, false, false, false, false] rfl rfl (any_of HT_.out (by kernel_rfl)) (fun _ _ _ h => h) (Or.inl ⟨by rfl, ?_⟩) ?_ ?_
                  rotate_left
                  · intro w'
                    go_simp
                    first | with_reducible rfl | (rw [if_neg (by have hz0_ : (⟨#[]⟩ : ByteArray).size = 0 := rfl; (try simp only [decide_eq_true_eq, ByteArray.size_append, ByteArray.size_extract, eq_iff_iff, iff_true, iff_false, Nat.not_lt] at *); omega)]; try with_reducible rfl)
                  rotate_left
                  · simp only [Act.put, List.setIfInBounds_toArray, List.set_cons_zero, List.set_cons_succ, i64_w, i32_w]
                    rfl
                  refine pure_ (i := 7) (N := some 50) (v := ?_) (a' := ?_) #[true, true, true, true, true, true, true, true, false, false, false, false, false] rfl rfl (any_of HT_.out (by kernel_rfl)) (fun _ _ _ h => h) (Or.inl ⟨by rfl, ?_⟩) ?_ ?_
                  rotate_left
                  · intro w'
                    go_simp
                    first | with_reducible rfl | (rw [if_neg (by have hz0_ : (⟨#[]⟩ : ByteArray).size = 0 := rfl; (try simp only [decide_eq_true_eq, ByteArray.size_append, ByteArray.size_extract, eq_iff_iff, iff_true, iff_false, Nat.not_lt] at *); omega)]; try with_reducible rfl)
                  rotate_left
                  · simp only [Act.put, List.setIfInBounds_toArray, List.set_cons_zero, List.set_cons_succ, i64_w, i32_w]
                    rfl
                  refine pure_ (i := 8) (N := some 51) (v := ?_) (a' := ?_) #[true, true, true, true, true, true, true, true, true, false, false, false, false] rfl rfl (any_of HT_.out (by kernel_rfl)) (fun _ _ _ h => h) (Or.inl ⟨by rfl, ?_⟩) ?_ ?_
                  rotate_left
                  · intro w'
                    go_simp
                    first | with_reducible rfl | (rw [if_neg (by have hz0_ : (⟨#[]⟩ : ByteArray).size = 0 := rfl; (try simp only [decide_eq_true_eq, ByteArray.size_append, ByteArray.size_extract, eq_iff_iff, iff_true, iff_false, Nat.not_lt] at *); omega)]; try with_reducible rfl)
                  rotate_left
                  · simp only [Act.put, List.setIfInBounds_toArray, List.set_cons_zero, List.set_cons_succ, i64_w, i32_w]
                    rfl
                  refine pure_ (i := 9) (N := some 52) (v := ?_) (a' := ?_) #[true, true, true, true, true, true, true, true, true, true, false, false, false] rfl rfl (any_of HT_.out (by kernel_rfl)) (fun _ _ _ h => h) (Or.inl ⟨by rfl, ?_⟩) ?_ ?_
                  rotate_left
                  · intro w'
                    go_simp
                    first | with_reducible rfl | (rw [if_neg (by have hz0_ : (⟨#[]⟩ : ByteArray).size = 0 := rfl; (try simp only [decide_eq_true_eq, ByteArray.size_append, ByteArray.size_extract, eq_iff_iff, iff_true, iff_false, Nat.not_lt] at *); omega)]; try with_reducible rfl)
                  rotate_left
                  · simp only [Act.put, List.setIfInBounds_toArray, List.set_cons_zero, List.set_cons_succ, i64_w, i32_w]
                    rfl
                  refine pure_ (i := 10) (N := some 53) (v := ?_) (a' := ?_) #[true, true, true, true, true, true, true, true, true, true, true, false, false] rfl rfl (any_of HT_.out (by kernel_rfl)) (fun _ _ _ h => h) (Or.inl ⟨by rfl, ?_⟩) ?_ ?_
                  rotate_left
                  · intro w'
                    go_simp
                    first | with_reducible rfl | (rw [if_neg (by have hz0_ : (⟨#[]⟩ : ByteArray).size = 0 := rfl; (try simp only [decide_eq_true_eq, ByteArray.size_append, ByteArray.size_extract, eq_iff_iff, iff_true, iff_false, Nat.not_lt] at *); omega)]; try with_reducible rfl)
                  rotate_left
                  · simp only [Act.put, List.setIfInBounds_toArray, List.set_cons_zero, List.set_cons_succ, i64_w, i32_w]
                    rfl
                  refine one_ (i := 11) (N := none) #[true, true, true, true, true, true, true, true, true, true, true, true, false] rfl rfl (one_of HT_.out (by kernel_rfl)) (by decide) (fun K hK => ?_)
                  have hs32 : w31.cell? ⟨gb170, 0, none⟩ = some (.int .i64 0) := (blk_cell BK170.out 0).trans rfl
                  have hfs32 := blk_frozen BK170.out 0
                  have hs33 : w31.cell? ⟨gb170, 1, none⟩ = some (.int .i64 0) := (blk_cell BK170.out 1).trans rfl
                  have hfs33 := blk_frozen BK170.out 1
                  have hs34 : w31.cell? ⟨gb170, 2, none⟩ = some (.bool false) := (blk_cell BK170.out 2).trans rfl
                  have hfs34 := blk_frozen BK170.out 2
                  have hs35 : w31.cell? ⟨gb170, 3, none⟩ = some (.string (⟨#[]⟩ : ByteArray)) := (blk_cell BK170.out 3).trans rfl
                  have hfs35 := blk_frozen BK170.out 3
                  refine skip_ (w1 := ?_) (by rfl) rfl ?_ ?_
                  rotate_left
                  · go_simp
                    rfl
                  refine hK.out _ _ trivial (fun hHeld => ?_)
                  clear hK K
                  refine pure_ (i := 12) (N := some 7) (v := ?_) (a' := ?_) #[true, true, true, true, true, true, true, true, true, true, true, true, true] rfl rfl (any_of HT_.out (by kernel_rfl)) (fun _ _ _ h => h) (Or.inl ⟨by rfl, ?_⟩) ?_ ?_
                  rotate_left
                  · intro w'
                    go_simp
                    first | with_reducible rfl | (rw [if_neg (by have hz0_ : (⟨#[]⟩ : ByteArray).size = 0 := rfl; (try simp only [decide_eq_true_eq, ByteArray.size_append, ByteArray.size_extract, eq_iff_iff, iff_true, iff_false, Nat.not_lt] at *); omega)]; try with_reducible rfl)
                  rotate_left
                  · simp only [Act.put, List.setIfInBounds_toArray, List.set_cons_zero, List.set_cons_succ, i64_w, i32_w]
                    rfl
                  refine done_ (done_of HT_.out (by kernel_rfl)) ?_
                  try go_wp2
                  refine bodyPost_ret (results_ct rfl _ _ gb170 26 #[.int .i64 (wrap64 (t173)), .int .i64 (wrap64 (t175)), .bool ((a2.extract 6 8).toList == ([0, 0] : List UInt8)), .string (a2.extract 8 (t172 : Int).toNat)] (0, 0) _ rfl (by (with_reducible repeat (first | refine blk_drewN ?_ _ | refine blk_drew ?_ | refine blk_alloc ?_ _)); refine blk_put (cs := #[.int .i64 (wrap64 (t173)), .int .i64 (wrap64 (t175)), .bool ((a2.extract 6 8).toList == ([0, 0] : List UInt8)), .string (⟨#[]⟩ : ByteArray)]) ?_ 3 _ rfl; (with_reducible repeat (first | refine blk_drewN ?_ _ | refine blk_drew ?_ | refine blk_alloc ?_ _)); refine blk_put (cs := #[.int .i64 (wrap64 (t173)), .int .i64 (wrap64 (t175)), .bool false, .string (⟨#[]⟩ : ByteArray)]) ?_ 2 _ rfl; (with_reducible repeat (first | refine blk_drewN ?_ _ | refine blk_drew ?_ | refine blk_alloc ?_ _)); refine blk_put (cs := #[.int .i64 (wrap64 (t173)), .int .i64 0, .bool false, .string (⟨#[]⟩ : ByteArray)]) ?_ 1 _ rfl; (with_reducible repeat (first | refine blk_drewN ?_ _ | refine blk_drew ?_ | refine blk_alloc ?_ _)); refine blk_put (cs := #[.int .i64 0, .int .i64 0, .bool false, .string (⟨#[]⟩ : ByteArray)]) ?_ 0 _ rfl; (with_reducible repeat (first | refine blk_drewN ?_ _ | refine blk_drew ?_ | refine blk_alloc ?_ _)); exact BK170.out) Tryd.underlying26 rfl (by kernel_rfl)) rfl ?_
                  exact ⟨by first | rfl | (simp [errW_none, errW_some] <;> rfl) | (simp [*, errW_none, errW_some] <;> rfl) | (simp [*, IntKind.wrap_u32]; done) | (simp_all [IntKind.wrap_u32]; done), by repeat (first | (with_reducible first | exact HB.out | apply below_alloc | apply pw_below_drewN | apply below_drew1 | refine below_set ?_ GE170.out) | exact HB.out)⟩
                · rw [if_neg c26] at H
                  exact absurd H (by simp)
              · rw [if_neg c25] at H
                exact absurd H (by simp)
            · rw [if_neg c24] at H
              exact absurd H (by simp)
          · rw [if_neg c23] at H
            exact absurd H (by simp)

end Go.Proofs.YtppaikjbafobbaaDoor.P
