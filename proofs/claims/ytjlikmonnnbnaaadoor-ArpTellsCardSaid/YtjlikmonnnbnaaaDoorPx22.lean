-- Written by wip/hprint.py (this session's program) through the kit's print program; hand contracts are marked 'by hand'.
import Derived.Test.YtjlikmonnnbnaaaDoorPx0
import Derived.Test.YtjlikmonnnbnaaaDoorPx5
namespace Go.Proofs.YtjlikmonnnbnaaaDoor.P
open Go.RowKit Go.Proofs.YtjlikmonnnbnaaaDoorW.PrintWords Go.Proofs.YtjlikmonnnbnaaaDoorW.PrintLast Go.Proofs.YtjlikmonnnbnaaaDoorW.PrintMore
attribute [local go_sem] max2_int min2_int max_two min_two max_three min_three max_four min_four   -- for this text's walks alone
set_option linter.unusedVariables false
set_option linter.unusedSimpArgs false

/-! ### ether_put: function 28 -/
def ether_put.f (k : Nat) (a0 : Int) (a1 : Int) : Option (ByteArray) := (octets_Put.f k a0 a1).bind fun bt265 => (some bt265.1)
theorem ether_put.mono : ∀ a0 a1 k, LeO (ether_put.f k a0 a1) (ether_put.f (k + 1) a0 a1) := by
  intro a0 a1 k
  unfold ether_put.f
  repeat' first
      | (with_reducible exact octets_Put.mono _ _ _)
      | (with_reducible exact LeO.refl _)
      | (with_reducible exact LeO.none _)
      | (with_reducible refine LeO.ite ?_ ?_)
      | (with_reducible refine LeO.bind ?_ (fun _ => ?_))
      | exact octets_Put.mono _ _ _
      | exact LeO.none _
      | refine LeO.ite ?_ ?_
      | refine LeO.bind ?_ (fun _ => ?_)
set_option maxHeartbeats 8000000 in
set_option maxRecDepth 100000 in
theorem ether_put.calls (k : Nat) (a0 : Int) (a1 : Int) (r : ByteArray) (w : World) (h : ether_put.f k a0 a1 = some r) :
    Calls Tryd.prog 28 #[.int .u64 a0, .int .i64 a1] w fun e w' => e = .returned (.string r) ∧ Below w.heap.size w w' := by
  have HB := Aside0.mk (Below.refl w.heap.size w)
  have H : ((octets_Put.f k a0 a1).bind fun bt265 => (some bt265.1)) = some r := h
  clear h
  replace H := Option.bind_eq_some_iff.mp H
  obtain ⟨⟨t265, t266⟩, A30, H⟩ := H
  replace H : (some t265) = some r := H
  have A3 := Aside0.mk A30
  clear A30
  obtain rfl := Option.some.inj H
  go_enter Tryd.func28, Tryd.ntmps28
  go_wp2_with (first | ((with_reducible refine gate_callee (f := 38) rfl ?_); refine goesL_ (some 10) rfl rfl Tryd.func38 (by kernel_rfl) rfl #[.int .u64 a0, .int .i64 a1] rfl (by (try simp only [List.map_toArray, List.map_cons, List.map_nil]); first | done | rfl | (simp only [List.length_drop, List.length_take]; rfl)) ?_; (with_reducible refine (octets_Put.calls k a0 a1 t265 t266 _ A3.out).mono ?_); rintro e w4 ⟨rfl, hb⟩; refine ⟨_, rfl, ?_⟩; have n0_ := Aside0.mk (below_step (by repeat (first | (with_reducible first | exact HB.out | apply below_alloc | apply pw_below_drewN | apply below_drew1) | exact HB.out)) hb); clear HB; have HB := n0_; clear n0_; (try clear hb); (try clear hb2); (try clear hk); (try clear hi)))
  go_ret
  exact ⟨by first | rfl | (simp [errW_none, errW_some] <;> rfl) | (simp [*, errW_none, errW_some] <;> rfl) | (simp [*, IntKind.wrap_u32]; done) | (simp_all [IntKind.wrap_u32]; done), by repeat (first | (with_reducible first | exact HB.out | apply below_alloc | apply pw_below_drewN | apply below_drew1) | exact HB.out)⟩

/-! ### ether_info: function 29 -/
def ether_info.f (a0_0 : Bool) (a0_1 : Int) (a0_2 : Bool) (a0_3 : Int) : Option (Int) := if a0_2 = true then (some (IntKind.u64.wrap (Go.bits .or .i64 (Go.bits .or .i64 (wrap64 (a0_1 * 8192)) a0_3) 4096))) else (some (IntKind.u64.wrap (Go.bits .or .i64 (wrap64 (a0_1 * 8192)) a0_3)))
set_option maxHeartbeats 8000000 in
set_option maxRecDepth 100000 in
theorem ether_info.calls (a0_0 : Bool) (a0_1 : Int) (a0_2 : Bool) (a0_3 : Int) (r : Int) (w : World) (h : ether_info.f a0_0 a0_1 a0_2 a0_3 = some r) :
    Calls Tryd.prog 29 #[.agg #[.bool a0_0, .int .i64 a0_1, .bool a0_2, .int .i64 a0_3]] w fun e w' => e = .returned (.int .u64 r) ∧ Below w.heap.size w w' := by
  have hu38 := Tryd.underlying38
  have HB := Aside0.mk (Below.refl w.heap.size w)
  have H : (if a0_2 = true then (some (IntKind.u64.wrap (Go.bits .or .i64 (Go.bits .or .i64 (wrap64 (a0_1 * 8192)) a0_3) 4096))) else (some (IntKind.u64.wrap (Go.bits .or .i64 (wrap64 (a0_1 * 8192)) a0_3)))) = some r := h
  clear h
  by_cases c2 : a0_2 = true
  · subst c2
    have H1 : (some (IntKind.u64.wrap (Go.bits .or .i64 (Go.bits .or .i64 (wrap64 (a0_1 * 8192)) a0_3) 4096))) = some r := by rw [if_pos rfl] at H; exact H
    clear H
    have H := H1
    clear H1
    obtain rfl := Option.some.inj H
    go_enter Tryd.func29, Tryd.ntmps29
    go_wp2_with (first | ((with_reducible refine gate_dst (N := 1) rfl ?_); refine box_event ?hg (N := 1) ?hd (cs := #[.bool a0_0, .int .i64 a0_1, .bool true, .int .i64 a0_3]) (t := 38) ?hr ?_; (case hd => rfl); (case hg => rfl); (case hr => first | (go_simp; done) | (go_simp; rfl)); intro gb267 hg w3 hbox hb; have n0_ := Aside0.mk (below_step (by repeat (first | (with_reducible first | exact HB.out | apply below_alloc | apply pw_below_drewN | apply below_drew1) | exact HB.out)) hb); have n1_ := Aside0.mk (hbox); have n2_ := Aside0.mk ((by rw [hg]; exact (below_size (by repeat (first | (with_reducible first | exact HB.out | apply below_alloc | apply pw_below_drewN | apply below_drew1) | exact HB.out))) : w.heap.size ≤ gb267)); have n3_ := Aside0.mk ((by rw [hg]; exact (below_size (by repeat (first | (with_reducible first | exact HB.out | apply below_alloc | apply pw_below_drewN | apply below_drew1) | exact HB.out))) : w.heap.size ≤ gb267)); clear HB; have HB := n0_; have BK267 := n1_; have GW267 := n2_; have GE267 := n3_; clear n0_ n1_ n2_ n3_; clear hb hbox hg; have hcz4_0 : w3.cell? ⟨gb267, 0, none⟩ = some (.bool a0_0) := (blk_cell BK267.out 0).trans rfl; have hcz4_1 : w3.cell? ⟨gb267, 1, none⟩ = some (.int .i64 a0_1) := (blk_cell BK267.out 1).trans rfl; have hcz4_2 : w3.cell? ⟨gb267, 2, none⟩ = some (.bool true) := (blk_cell BK267.out 2).trans rfl; have hcz4_3 : w3.cell? ⟨gb267, 3, none⟩ = some (.int .i64 a0_3) := (blk_cell BK267.out 3).trans rfl; have hfz4_0 := blk_frozen BK267.out 0; have hfz4_1 := blk_frozen BK267.out 1; have hfz4_2 := blk_frozen BK267.out 2; have hfz4_3 := blk_frozen BK267.out 3))
    go_ret
    exact ⟨by first | rfl | (simp [errW_none, errW_some] <;> rfl) | (simp [*, errW_none, errW_some] <;> rfl) | (simp [*, IntKind.wrap_u32]; done) | (simp_all [IntKind.wrap_u32]; done), by repeat (first | (with_reducible first | exact HB.out | apply below_alloc | apply pw_below_drewN | apply below_drew1 | refine below_set ?_ GE267.out) | exact HB.out)⟩
  · replace c2 := Bool.eq_false_iff.mpr c2
    subst c2
    have H1 : (some (IntKind.u64.wrap (Go.bits .or .i64 (wrap64 (a0_1 * 8192)) a0_3))) = some r := by rw [if_neg (show ¬ (false = true) by decide)] at H; exact H
    clear H
    have H := H1
    clear H1
    obtain rfl := Option.some.inj H
    go_enter Tryd.func29, Tryd.ntmps29
    go_wp2_with (first | ((with_reducible refine gate_dst (N := 1) rfl ?_); refine box_event ?hg (N := 1) ?hd (cs := #[.bool a0_0, .int .i64 a0_1, .bool false, .int .i64 a0_3]) (t := 38) ?hr ?_; (case hd => rfl); (case hg => rfl); (case hr => first | (go_simp; done) | (go_simp; rfl)); intro gb267 hg w5 hbox hb; have n0_ := Aside0.mk (below_step (by repeat (first | (with_reducible first | exact HB.out | apply below_alloc | apply pw_below_drewN | apply below_drew1) | exact HB.out)) hb); have n1_ := Aside0.mk (hbox); have n2_ := Aside0.mk ((by rw [hg]; exact (below_size (by repeat (first | (with_reducible first | exact HB.out | apply below_alloc | apply pw_below_drewN | apply below_drew1) | exact HB.out))) : w.heap.size ≤ gb267)); have n3_ := Aside0.mk ((by rw [hg]; exact (below_size (by repeat (first | (with_reducible first | exact HB.out | apply below_alloc | apply pw_below_drewN | apply below_drew1) | exact HB.out))) : w.heap.size ≤ gb267)); clear HB; have HB := n0_; have BK267 := n1_; have GW267 := n2_; have GE267 := n3_; clear n0_ n1_ n2_ n3_; clear hb hbox hg; have hcz6_0 : w5.cell? ⟨gb267, 0, none⟩ = some (.bool a0_0) := (blk_cell BK267.out 0).trans rfl; have hcz6_1 : w5.cell? ⟨gb267, 1, none⟩ = some (.int .i64 a0_1) := (blk_cell BK267.out 1).trans rfl; have hcz6_2 : w5.cell? ⟨gb267, 2, none⟩ = some (.bool false) := (blk_cell BK267.out 2).trans rfl; have hcz6_3 : w5.cell? ⟨gb267, 3, none⟩ = some (.int .i64 a0_3) := (blk_cell BK267.out 3).trans rfl; have hfz6_0 := blk_frozen BK267.out 0; have hfz6_1 := blk_frozen BK267.out 1; have hfz6_2 := blk_frozen BK267.out 2; have hfz6_3 := blk_frozen BK267.out 3))
    go_ret
    exact ⟨by first | rfl | (simp [errW_none, errW_some] <;> rfl) | (simp [*, errW_none, errW_some] <;> rfl) | (simp [*, IntKind.wrap_u32]; done) | (simp_all [IntKind.wrap_u32]; done), by repeat (first | (with_reducible first | exact HB.out | apply below_alloc | apply pw_below_drewN | apply below_drew1 | refine below_set ?_ GE267.out) | exact HB.out)⟩

end Go.Proofs.YtjlikmonnnbnaaaDoor.P
