-- Written by wip/hprint.py (this session's program) through the kit's print program; hand contracts are marked 'by hand'.
import Derived.Test.YtppaikjbafobbaaDoorPx0
import Derived.Test.YtppaikjbafobbaaDoorPx3
import Derived.Test.YtppaikjbafobbaaDoorPx5
namespace Go.Proofs.YtppaikjbafobbaaDoor.P
open Go.RowKit Go.Proofs.YtppaikjbafobbaaDoorW.PrintWords Go.Proofs.YtppaikjbafobbaaDoorW.PrintLast Go.Proofs.YtppaikjbafobbaaDoorW.PrintMore
attribute [local go_sem] max2_int min2_int max_two min_two max_three min_three max_four min_four   -- for this text's walks alone
set_option linter.unusedVariables false
set_option linter.unusedSimpArgs false

/-! ### csum_Of: function 17 -/
def csum_Of.f (k : Nat) (l0 : List ByteArray) : Option (Int) := (csum_total.f k l0).bind fun t111 => (some (wrap64 (65535 - t111)))
theorem csum_Of.mono : ∀ a0 k, LeO (csum_Of.f k a0) (csum_Of.f (k + 1) a0) := by
  intro a0 k
  unfold csum_Of.f
  repeat' first
      | (with_reducible exact csum_total.mono _ _)
      | (with_reducible exact LeO.refl _)
      | (with_reducible exact LeO.none _)
      | (with_reducible refine LeO.ite ?_ ?_)
      | (with_reducible refine LeO.bind ?_ (fun _ => ?_))
      | exact csum_total.mono _ _
      | exact LeO.none _
      | refine LeO.ite ?_ ?_
      | refine LeO.bind ?_ (fun _ => ?_)
set_option maxHeartbeats 8000000 in
set_option maxRecDepth 100000 in
theorem csum_Of.calls (k : Nat) (A0 : Option Addr) (c0 : Nat) (l0 : List ByteArray) (r : Int) (w : World) (hr0 : Kd.C Kd.string w A0 l0.length l0) (hc0 : l0.length ≤ c0) (h : csum_Of.f k l0 = some r) :
    Calls Tryd.prog 17 #[.slice A0 l0.length c0] w fun e w' => e = .returned (.int .i64 r) ∧ Below w.heap.size w w' := by
  have HR0 := Aside0.mk hr0
  have HC0 := Aside0.mk hc0
  clear hr0 hc0
  have HB := Aside0.mk (Below.refl w.heap.size w)
  have H : ((csum_total.f k l0).bind fun t111 => (some (wrap64 (65535 - t111)))) = some r := h
  clear h
  replace H := Option.bind_eq_some_iff.mp H
  obtain ⟨t111, A20, H⟩ := H
  replace H : (some (wrap64 (65535 - t111))) = some r := H
  have A2 := Aside0.mk A20
  clear A20
  obtain rfl := Option.some.inj H
  go_enter Tryd.func17, Tryd.ntmps17
  go_wp2_with (first | ((with_reducible refine gate_callee (f := 27) rfl ?_); refine goesL_ (some 4) rfl rfl Tryd.func27 (by kernel_rfl) rfl #[.slice A0 l0.length c0] rfl (by (try simp only [List.map_toArray, List.map_cons, List.map_nil]); first | done | rfl | (simp only [List.length_drop, List.length_take]; rfl)) ?_; (with_reducible refine (csum_total.calls k _ _ l0 t111 _ ?side1 ?side2 A2.out).mono ?_); (case side1 => repeat (first | exact HR0.out | (with_reducible refine Kd.C_alloc ?_ _) | (with_reducible refine Kd.C_drewN ?_ _) | (with_reducible refine Kd.C_drew ?_))); (case side2 => exact HC0.out); rintro e w3 ⟨rfl, hb⟩; refine ⟨_, rfl, ?_⟩; have n0_ := Aside0.mk (below_step (by repeat (first | (with_reducible first | exact HB.out | apply below_alloc | apply pw_below_drewN | apply below_drew1) | exact HB.out)) hb); clear HB; have HB := n0_; clear n0_; (try clear hb); (try clear hb2); (try clear hk); (try clear hi)))
  go_ret
  exact ⟨by first | rfl | (simp [errW_none, errW_some] <;> rfl) | (simp [*, errW_none, errW_some] <;> rfl) | (simp [*, IntKind.wrap_u32]; done) | (simp_all [IntKind.wrap_u32]; done), by repeat (first | (with_reducible first | exact HB.out | apply below_alloc | apply pw_below_drewN | apply below_drew1) | exact HB.out)⟩

/-! ### csum_Head: function 18 -/
def csum_Head.f (k : Nat) (a0 : Int) (a1 : Int) (a2 : Int) (a3 : Int) : Option (ByteArray) := (octets_Put.f k (IntKind.u64.wrap (a0)) 4).bind fun bt112 => ((octets_Put.f k (IntKind.u64.wrap (a1)) 4).bind fun bt114 => ((octets_Put.f k (IntKind.u64.wrap (Go.bits .and .i64 a3 65535)) 2).bind fun bt116 => (if bt112.1.size + bt114.1.size ≤ 9223372036854775807 then ((some (([0, (a2) % 256] : List Int) : List Int)).bind fun y118 => (if (bt112.1 ++ bt114.1).size + (strOfNums y118).size ≤ 9223372036854775807 then (if ((bt112.1 ++ bt114.1) ++ (strOfNums y118)).size + bt116.1.size ≤ 9223372036854775807 then (some (((bt112.1 ++ bt114.1) ++ (strOfNums y118)) ++ bt116.1)) else (none)) else (none))) else (none))))
theorem csum_Head.mono : ∀ a0 a1 a2 a3 k, LeO (csum_Head.f k a0 a1 a2 a3) (csum_Head.f (k + 1) a0 a1 a2 a3) := by
  intro a0 a1 a2 a3 k
  unfold csum_Head.f
  repeat' first
      | (with_reducible exact octets_Put.mono _ _ _)
      | (with_reducible exact LeO.refl _)
      | (with_reducible exact LeO.none _)
      | (with_reducible refine LeO.ite ?_ ?_)
      | (with_reducible refine LeO.bind ?_ (fun _ => ?_))
      | exact octets_Put.mono _ _ _
      | exact LeO.none _
      | refine LeO.ite ?_ ?_
      | refine LeO.bind ?_ (fun _ => ?_)
set_option maxHeartbeats 8000000 in
set_option maxRecDepth 100000 in
theorem csum_Head.calls (k : Nat) (a0 : Int) (a1 : Int) (a2 : Int) (a3 : Int) (r : ByteArray) (w : World) (h : csum_Head.f k a0 a1 a2 a3 = some r) :
    Calls Tryd.prog 18 #[.int .u32 a0, .int .u32 a1, .int .i64 a2, .int .i64 a3] w fun e w' => e = .returned (.string r) ∧ Below w.heap.size w w' := by
  have HB := Aside0.mk (Below.refl w.heap.size w)
  have H : ((octets_Put.f k (IntKind.u64.wrap (a0)) 4).bind fun bt112 => ((octets_Put.f k (IntKind.u64.wrap (a1)) 4).bind fun bt114 => ((octets_Put.f k (IntKind.u64.wrap (Go.bits .and .i64 a3 65535)) 2).bind fun bt116 => (if bt112.1.size + bt114.1.size ≤ 9223372036854775807 then ((some (([0, (a2) % 256] : List Int) : List Int)).bind fun y118 => (if (bt112.1 ++ bt114.1).size + (strOfNums y118).size ≤ 9223372036854775807 then (if ((bt112.1 ++ bt114.1) ++ (strOfNums y118)).size + bt116.1.size ≤ 9223372036854775807 then (some (((bt112.1 ++ bt114.1) ++ (strOfNums y118)) ++ bt116.1)) else (none)) else (none))) else (none))))) = some r := h
  clear h
  replace H := Option.bind_eq_some_iff.mp H
  obtain ⟨⟨t112, t113⟩, A50, H⟩ := H
  replace H : ((octets_Put.f k (IntKind.u64.wrap (a1)) 4).bind fun bt114 => ((octets_Put.f k (IntKind.u64.wrap (Go.bits .and .i64 a3 65535)) 2).bind fun bt116 => (if t112.size + bt114.1.size ≤ 9223372036854775807 then ((some (([0, (a2) % 256] : List Int) : List Int)).bind fun y118 => (if (t112 ++ bt114.1).size + (strOfNums y118).size ≤ 9223372036854775807 then (if ((t112 ++ bt114.1) ++ (strOfNums y118)).size + bt116.1.size ≤ 9223372036854775807 then (some (((t112 ++ bt114.1) ++ (strOfNums y118)) ++ bt116.1)) else (none)) else (none))) else (none)))) = some r := H
  have A5 := Aside0.mk A50
  clear A50
  replace H := Option.bind_eq_some_iff.mp H
  obtain ⟨⟨t114, t115⟩, A60, H⟩ := H
  replace H : ((octets_Put.f k (IntKind.u64.wrap (Go.bits .and .i64 a3 65535)) 2).bind fun bt116 => (if t112.size + t114.size ≤ 9223372036854775807 then ((some (([0, (a2) % 256] : List Int) : List Int)).bind fun y118 => (if (t112 ++ t114).size + (strOfNums y118).size ≤ 9223372036854775807 then (if ((t112 ++ t114) ++ (strOfNums y118)).size + bt116.1.size ≤ 9223372036854775807 then (some (((t112 ++ t114) ++ (strOfNums y118)) ++ bt116.1)) else (none)) else (none))) else (none))) = some r := H
  have A6 := Aside0.mk A60
  clear A60
  replace H := Option.bind_eq_some_iff.mp H
  obtain ⟨⟨t116, t117⟩, A70, H⟩ := H
  replace H : (if t112.size + t114.size ≤ 9223372036854775807 then ((some (([0, (a2) % 256] : List Int) : List Int)).bind fun y118 => (if (t112 ++ t114).size + (strOfNums y118).size ≤ 9223372036854775807 then (if ((t112 ++ t114) ++ (strOfNums y118)).size + t116.size ≤ 9223372036854775807 then (some (((t112 ++ t114) ++ (strOfNums y118)) ++ t116)) else (none)) else (none))) else (none)) = some r := H
  have A7 := Aside0.mk A70
  clear A70
  by_cases c8 : t112.size + t114.size ≤ 9223372036854775807
  · rw [if_pos c8] at H
    have c8b0 := eq_true c8
    have c8b1 : decide (t112.size + t114.size ≤ 9223372036854775807) = true := decide_eq_true c8
    try have c8b2 : (9223372036854775807 < t112.size + t114.size) = False := eq_false (Nat.not_lt.2 c8)
    obtain ⟨y118, hy118⟩ : ∃ y_ : List Int, y_ = (([0, (a2) % 256] : List Int)) := ⟨_, rfl⟩
    replace H : (if (t112 ++ t114).size + (strOfNums y118).size ≤ 9223372036854775807 then (if ((t112 ++ t114) ++ (strOfNums y118)).size + t116.size ≤ 9223372036854775807 then (some (((t112 ++ t114) ++ (strOfNums y118)) ++ t116)) else (none)) else (none)) = some r := by first | (rw [hy118]; with_reducible exact H) | (have H2_ := (Option.bind_some _ _).symm.trans H; rw [hy118]; with_reducible exact H2_) | (have H2_ := (Option.bind_some _ _).symm.trans H; with_reducible exact H2_) | with_reducible exact H | (rw [hy118]; exact H) | exact H
    have Ny118 := Aside0.mk hy118
    clear hy118
    by_cases c9 : (t112 ++ t114).size + (strOfNums y118).size ≤ 9223372036854775807
    · rw [if_pos c9] at H
      have c9b0 := eq_true c9
      have c9b1 : decide ((t112 ++ t114).size + (strOfNums y118).size ≤ 9223372036854775807) = true := decide_eq_true c9
      have c9z := c9
      simp only [ByteArray.size_append] at c9z
      have c9z1 := eq_true c9z
      have c9z2 := eq_false (Nat.not_lt.2 c9z)
      try have c9b2 : (9223372036854775807 < (t112 ++ t114).size + (strOfNums y118).size) = False := eq_false (Nat.not_lt.2 c9)
      by_cases c10 : ((t112 ++ t114) ++ (strOfNums y118)).size + t116.size ≤ 9223372036854775807
      · rw [if_pos c10] at H
        have c10b0 := eq_true c10
        have c10b1 : decide (((t112 ++ t114) ++ (strOfNums y118)).size + t116.size ≤ 9223372036854775807) = true := decide_eq_true c10
        have c10z := c10
        simp only [ByteArray.size_append] at c10z
        have c10z1 := eq_true c10z
        have c10z2 := eq_false (Nat.not_lt.2 c10z)
        try have c10b2 : (9223372036854775807 < ((t112 ++ t114) ++ (strOfNums y118)).size + t116.size) = False := eq_false (Nat.not_lt.2 c10)
        obtain rfl := Option.some.inj H
        go_enter Tryd.func18, Tryd.ntmps18
        go_wp2_with (first | ((with_reducible refine gate_callee (f := 26) rfl ?_); refine goesL_ (some 18) rfl rfl Tryd.func26 (by kernel_rfl) rfl #[.int .u64 (IntKind.u64.wrap (a0)), .int .i64 4] rfl (by (try simp only [List.map_toArray, List.map_cons, List.map_nil]); first | done | rfl | (simp only [List.length_drop, List.length_take]; rfl)) ?_; (with_reducible refine (octets_Put.calls k (IntKind.u64.wrap (a0)) 4 t112 t113 _ A5.out).mono ?_); rintro e w11 ⟨rfl, hb⟩; refine ⟨_, rfl, ?_⟩; have n0_ := Aside0.mk (below_step (by repeat (first | (with_reducible first | exact HB.out | apply below_alloc | apply pw_below_drewN | apply below_drew1) | exact HB.out)) hb); clear HB; have HB := n0_; clear n0_; (try clear hb); (try clear hb2); (try clear hk); (try clear hi)) | ((with_reducible refine gate_callee (f := 26) rfl ?_); refine goesL_ (some 24) rfl rfl Tryd.func26 (by kernel_rfl) rfl #[.int .u64 (IntKind.u64.wrap (a1)), .int .i64 4] rfl (by (try simp only [List.map_toArray, List.map_cons, List.map_nil]); first | done | rfl | (simp only [List.length_drop, List.length_take]; rfl)) ?_; (with_reducible refine (octets_Put.calls k (IntKind.u64.wrap (a1)) 4 t114 t115 _ A6.out).mono ?_); rintro e w12 ⟨rfl, hb⟩; refine ⟨_, rfl, ?_⟩; have n0_ := Aside0.mk (below_step (by repeat (first | (with_reducible first | exact HB.out | apply below_alloc | apply pw_below_drewN | apply below_drew1) | exact HB.out)) hb); clear HB; have HB := n0_; clear n0_; (try clear hb); (try clear hb2); (try clear hk); (try clear hi)) | ((with_reducible refine gate_callee (f := 26) rfl ?_); refine goesL_ (some 31) rfl rfl Tryd.func26 (by kernel_rfl) rfl #[.int .u64 (IntKind.u64.wrap (Go.bits .and .i64 a3 65535)), .int .i64 2] rfl (by (try simp only [List.map_toArray, List.map_cons, List.map_nil]); first | done | rfl | (simp only [List.length_drop, List.length_take]; rfl)) ?_; (with_reducible refine (octets_Put.calls k (IntKind.u64.wrap (Go.bits .and .i64 a3 65535)) 2 t116 t117 _ A7.out).mono ?_); rintro e w13 ⟨rfl, hb⟩; refine ⟨_, rfl, ?_⟩; have n0_ := Aside0.mk (below_step (by repeat (first | (with_reducible first | exact HB.out | apply below_alloc | apply pw_below_drewN | apply below_drew1) | exact HB.out)) hb); clear HB; have HB := n0_; clear n0_; (try clear hb); (try clear hb2); (try clear hk); (try clear hi)) | ((with_reducible refine gate_dst (N := 39) rfl ?_); refine Kd.R_lit (Kd.int .u8) _ 5 ?hg (N := 39) ?hd (xs := ([0, (a2) % 256] : List Int)) (inner := [.int .u8 0, .int .u8 ((a2) % 256)]) (ok := fun _ => True) (okp := fun _ => True) ?hr ?hp (fun _ hk => hk) trivial (Below.refl _ _) (Nat.le_refl _) (by simp) ?_; (case hd => rfl); (case hg => rfl); (case hr => first | (go_simp; done) | (go_simp; rfl)); (case hp => exact (Reps.one (show Kd.M (Kd.int .u8) _ _ _ 0 [.int .u8 0] from rfl) (Reps.one (show Kd.M (Kd.int .u8) _ _ _ ((a2) % 256) [.int .u8 ((a2) % 256)] from rfl) (Reps.none _ _)))); intro v119 w14 ho15 hb hg_ hnew_; clear hg_ hnew_; (first | rw [← Ny118.out] at ho15 | (simp only [Int.reduceToNat] at ho15; rw [← Ny118.out] at ho15)); have n0_ := Aside0.mk (Kd.R_lower ho15 (below_size (by repeat (first | (with_reducible first | exact HB.out | apply below_alloc | apply pw_below_drewN | apply below_drew1) | exact HB.out)))); have n1_ := Aside0.mk (below_step (by repeat (first | (with_reducible first | exact HB.out | apply below_alloc | apply pw_below_drewN | apply below_drew1) | exact HB.out)) hb); clear HB; have HO120 := n0_; have HB := n1_; clear n0_ n1_; clear hb ho15; have hcv16 := own_string (P := Tryd.prog) Tryd.underlying53 Tryd.underlying5 Tryd.underlying9 (Kd.own_of_R HO120.out)))
        go_ret
        exact ⟨by first | rfl | (simp [errW_none, errW_some] <;> rfl) | (simp [*, errW_none, errW_some] <;> rfl) | (simp [*, IntKind.wrap_u32]; done) | (simp_all [IntKind.wrap_u32]; done), by repeat (first | (with_reducible first | exact HB.out | apply below_alloc | apply pw_below_drewN | apply below_drew1) | exact HB.out)⟩
      · rw [if_neg c10] at H
        exact absurd H (by simp)
    · rw [if_neg c9] at H
      exact absurd H (by simp)
  · rw [if_neg c8] at H
    exact absurd H (by simp)

end Go.Proofs.YtppaikjbafobbaaDoor.P
