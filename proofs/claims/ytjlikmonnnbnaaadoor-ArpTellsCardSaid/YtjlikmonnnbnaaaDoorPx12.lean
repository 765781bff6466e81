-- Written by wip/hprint.py (this session's program) through the kit's print program; hand contracts are marked 'by hand'.
import Derived.Test.YtjlikmonnnbnaaaDoorPx0
import Derived.Test.YtjlikmonnnbnaaaDoorPx4
import Derived.Test.YtjlikmonnnbnaaaDoorPx11
namespace Go.Proofs.YtjlikmonnnbnaaaDoor.P
open Go.RowKit Go.Proofs.YtjlikmonnnbnaaaDoorW.PrintWords Go.Proofs.YtjlikmonnnbnaaaDoorW.PrintLast Go.Proofs.YtjlikmonnnbnaaaDoorW.PrintMore
attribute [local go_sem] max2_int min2_int max_two min_two max_three min_three max_four min_four   -- for this text's walks alone
set_option linter.unusedVariables false
set_option linter.unusedSimpArgs false

/-! ### strings_HasPrefix: function 23 -/
def strings_HasPrefix.f (a0 : ByteArray) (a1 : ByteArray) : Option (Bool) := (stringslite_HasPrefix.f a0 a1).bind fun t131 => (some t131)
set_option maxHeartbeats 8000000 in
set_option maxRecDepth 100000 in
theorem strings_HasPrefix.calls (a0 : ByteArray) (a1 : ByteArray) (r : Bool) (w : World) (h : strings_HasPrefix.f a0 a1 = some r) :
    Calls Tryd.prog 23 #[.string a0, .string a1] w fun e w' => e = .returned (.bool r) ∧ Drawn0 w w' := by
  have H : ((stringslite_HasPrefix.f a0 a1).bind fun t131 => (some t131)) = some r := h
  clear h
  replace H := Option.bind_eq_some_iff.mp H
  obtain ⟨t131, A30, H⟩ := H
  replace H : (some t131) = some r := H
  have A3 := Aside0.mk A30
  clear A30
  obtain rfl := Option.some.inj H
  go_enter Tryd.func23, Tryd.ntmps23
  go_wp2_with (first | ((with_reducible refine gate_callee (f := 34) rfl ?_); refine goesL_ (some 7) rfl rfl Tryd.func34 (by kernel_rfl) rfl #[.string a0, .string a1] rfl (by (try simp only [List.map_toArray, List.map_cons, List.map_nil]); first | done | rfl | (simp only [List.length_drop, List.length_take]; rfl)) ?_; (with_reducible refine (stringslite_HasPrefix.calls a0 a1 t131 _ A3.out).mono ?_); rintro e w' ⟨rfl, ⟨nd, rfl⟩⟩; refine ⟨_, rfl, ?_⟩))
  go_ret
  exact ⟨by first | rfl | (simp; done) | (simp [*]; done), by repeat (first | exact Drawn0.refl _ | apply Drawn0.step)⟩

/-! ### arp_Parse: function 9, by hand -/
-- CALLS gangway/octets.Get
-- CALLS gangway/arp.Check
-- CALLS strings.HasPrefix
-- CALLS gangway/octets.Get
-- CALLS gangway/arp.Check
-- CALLS strings.HasPrefix
def arp_Parse.f (k : Nat) (a0 : ByteArray) : Option (Int × Int × Int × Int × Int × Int) :=
  if (a0.size : Int) < 28 then some (0, 0, 0, 0, 0, 50) else
  (octets_Get.f k a0 6 2).bind fun g1 => (octets_Get.f k a0 8 6).bind fun g2 => (octets_Get.f k a0 14 4).bind fun g3 => (octets_Get.f k a0 18 6).bind fun g4 => (octets_Get.f k a0 24 4).bind fun g5 =>
  (strings_HasPrefix.f a0 (⟨#[0, 1, 8, 0, 6, 4]⟩ : ByteArray)).bind fun q => if q = true then
    (arp_Check.f (wrap64 g1.1) g2.1 (g3.1 % 4294967296) g4.1 (g5.1 % 4294967296)).bind fun c => if c = 0 then some (wrap64 g1.1, g2.1, g3.1 % 4294967296, g4.1, g5.1 % 4294967296, 0) else some (0, 0, 0, 0, 0, 51)
  else some (0, 0, 0, 0, 0, 51)
theorem alloc_three (w : World) (A B C : Obj) : (((w.alloc A).alloc B).alloc C).heap[w.heap.size]? = some A ∧ (((w.alloc A).alloc B).alloc C).heap[w.heap.size + 1]? = some B ∧ (((w.alloc A).alloc B).alloc C).heap[w.heap.size + 2]? = some C := by
  have h1 : (w.alloc A).heap.size = w.heap.size + 1 := Array.size_push _
  have h2 : ((w.alloc A).alloc B).heap.size = w.heap.size + 2 := (Array.size_push _).trans (by rw [h1])
  refine ⟨blk_alloc (blk_alloc (blk_new w A) B) C, blk_alloc ?_ C, ?_⟩
  · rw [← h1]
    exact blk_new _ B
  · rw [← h2]
    exact blk_new _ C
set_option maxHeartbeats 2000000 in
theorem arp_get_calls (k : Nat) (bs ba : Nat) (s : ByteArray) (i n : Int) (r1 r2 : Int) (w : World) (hne : bs ≠ ba) (hs : w.heap[bs]? = some (.cells #[.string s] 9 (0, 0))) (ha : w.heap[ba]? = some (.cells #[.int .i64 i] 3 (0, 0))) (h : octets_Get.f k s i n = some (r1, r2)) :
    Calls Tryd.prog 21 #[.int .i64 n, .pointer (some ⟨bs, 0, none⟩), .pointer (some ⟨ba, 0, none⟩)] w fun e w' => e = .returned (.int .u64 r1) ∧ w'.heap[bs]? = some (.cells #[.string s] 9 (0, 0)) ∧ w'.heap[ba]? = some (.cells #[.int .i64 (wrap64 (i + n))] 3 (0, 0)) ∧ (∀ g, g ≠ ba → g < w.heap.size → w'.heap[g]? = w.heap[g]?) ∧ (∀ B, B ≤ ba → B ≤ w.heap.size → Below B w w') := by
  have HO := Aside0.mk h
  have c0 := blk_cell hs 0
  have c1 := blk_cell ha 0
  have HS := Aside0.mk hs
  have HA := Aside0.mk ha
  clear hs ha h
  go_enter Tryd.func21, Tryd.ntmps21
  go_wp2_with (go_at_call 22; (with_reducible refine (octets_Get.calls k _ _ _ r1 r2 _ HO.out).mono ?_); rintro e1 w1 ⟨rfl, hb1⟩; have hk := blk_below HA.out hb1; have d1 := blk_cell hk 0; have f1 := blk_frozen hk 0)
  go_ret
  refine ⟨rfl, blk_far (blk_below HS.out hb1) hne _, blk_put hk 0 _ rfl, ?_, ?_⟩
  · intro g hg hlt
    exact (Below.heap_setCell w1 ⟨ba, 0, none⟩ _ g hg).trans (hb1.block g hlt)
  · intro B hB hBw
    exact (hb1.mono hBw).setCell hB _
def PS (w : World) (s : ByteArray) (i : Int) (wc : World) : Prop :=
  wc.heap[w.heap.size]? = some (.cells #[.string s] 9 (0, 0)) ∧ wc.heap[w.heap.size + 1]? = some (.cells #[.int .i64 0, .int .u64 0, .int .u32 0, .int .u64 0, .int .u32 0] 25 (0, 0)) ∧ wc.heap[w.heap.size + 1 + 1]? = some (.cells #[.int .i64 i] 3 (0, 0)) ∧ Below w.heap.size w wc
theorem ps_get {k : Nat} {w wc : World} {s : ByteArray} {i n j : Int} {r1 r2 : Int} (hp : PS w s i wc) (h : octets_Get.f k s i n = some (r1, r2)) (hj : i + n = j ∧ 0 ≤ j ∧ j < 100) :
    Calls Tryd.prog 21 #[.int .i64 n, .pointer (some ⟨w.heap.size, 0, none⟩), .pointer (some ⟨w.heap.size + 1 + 1, 0, none⟩)] wc fun e w' => e = .returned (.int .u64 r1) ∧ PS w s j w' := by
  obtain ⟨h1, h2, h3, h4⟩ := hp
  refine (arp_get_calls k _ _ s i n r1 r2 wc (by omega) h1 h3 h).mono ?_
  rintro e w' ⟨rfl, k1, k2, k3, k4⟩
  rw [show wrap64 (i + n) = j by unfold wrap64; omega] at k2
  refine ⟨rfl, k1, ?_, k2, h4.trans (k4 _ (by omega) h4.size)⟩
  rw [k3 _ (by omega) (blk_lt h2)]
  exact h2
theorem ps_start (w : World) (s : ByteArray) : PS w s 6 (((w.alloc (.cells #[.string s] 9)).alloc (.cells #[.int .i64 0, .int .u64 0, .int .u32 0, .int .u64 0, .int .u32 0] 25)).alloc (.cells #[.int .i64 6] 3)) := by
  obtain ⟨h1, h2, h3⟩ := alloc_three w (.cells #[.string s] 9) (.cells #[.int .i64 0, .int .u64 0, .int .u32 0, .int .u64 0, .int .u32 0] 25) (.cells #[.int .i64 6] 3)
  refine ⟨h1, h2, h3, ?_⟩
  repeat (first | exact Below.refl _ _ | apply below_alloc)
theorem arp_Parse.mono : ∀ a0 k, LeO (arp_Parse.f k a0) (arp_Parse.f (k + 1) a0) := by
  intro a0 k
  unfold arp_Parse.f
  refine LeO.ite (fun r h => h) ?_
  refine LeO.bind (octets_Get.mono _ _ _ _) (fun g1 => ?_)
  refine LeO.bind (octets_Get.mono _ _ _ _) (fun g2 => ?_)
  refine LeO.bind (octets_Get.mono _ _ _ _) (fun g3 => ?_)
  refine LeO.bind (octets_Get.mono _ _ _ _) (fun g4 => ?_)
  refine LeO.bind (octets_Get.mono _ _ _ _) (fun g5 => ?_)
  exact fun r h => h
set_option maxHeartbeats 4000000 in
set_option maxRecDepth 100000 in
theorem arp_Parse.calls (k : Nat) (a0 : ByteArray) (r1_0 r1_1 r1_2 r1_3 r1_4 r2 : Int) (w : World) (h : arp_Parse.f k a0 = some (r1_0, r1_1, r1_2, r1_3, r1_4, r2)) :
    Calls Tryd.prog 9 #[.string a0] w fun e w' => e = .returned (.tuple #[.agg #[.int .i64 r1_0, .int .u64 r1_1, .int .u32 r1_2, .int .u64 r1_3, .int .u32 r1_4], .int .i64 r2]) ∧ Below w.heap.size w w' := by
  unfold arp_Parse.f at h
  have hu25 := Tryd.underlying25
  by_cases h0 : (a0.size : Int) < 28
  · rw [if_pos h0] at h
    obtain ⟨rfl, rfl, rfl, rfl, rfl, rfl⟩ : 0 = r1_0 ∧ 0 = r1_1 ∧ 0 = r1_2 ∧ 0 = r1_3 ∧ 0 = r1_4 ∧ 50 = r2 := by simpa using Option.some.inj h
    clear h
    have b0 : decide (a0.size < 28) = true := decide_eq_true (by omega)
    have b1 : decide ((a0.size : Int) < 28) = true := decide_eq_true h0
    have HS := Aside0.mk (ps_start w a0)
    go_enter Tryd.func9, Tryd.ntmps9
    go_wp2
    refine bodyPost_ret (results_ct rfl _ _ (w.heap.size + 1) 25 #[.int .i64 0, .int .u64 0, .int .u32 0, .int .u64 0, .int .u32 0] (0, 0) _ rfl ?_ hu25 rfl (by kernel_rfl)) rfl ⟨rfl, ?_⟩
    · have e : (w.alloc (.cells #[.string a0] 9)).heap.size = w.heap.size + 1 := Array.size_push _
      rw [← e]
      exact blk_new _ _
    · exact below_alloc (below_alloc (Below.refl _ _) _) _
  · rw [if_neg h0] at h
    obtain ⟨⟨t1, e1⟩, q1, h⟩ := Option.bind_eq_some_iff.mp h
    obtain ⟨⟨t2, e2⟩, q2, h⟩ := Option.bind_eq_some_iff.mp h
    obtain ⟨⟨t3, e3⟩, q3, h⟩ := Option.bind_eq_some_iff.mp h
    obtain ⟨⟨t4, e4⟩, q4, h⟩ := Option.bind_eq_some_iff.mp h
    obtain ⟨⟨t5, e5⟩, q5, h⟩ := Option.bind_eq_some_iff.mp h
    obtain ⟨q, q6, h⟩ := Option.bind_eq_some_iff.mp h
    have Q1 := Aside0.mk q1; have Q2 := Aside0.mk q2; have Q3 := Aside0.mk q3; have Q4 := Aside0.mk q4; have Q5 := Aside0.mk q5; have Q6 := Aside0.mk q6
    clear q1 q2 q3 q4 q5 q6
    have b0 : decide (a0.size < 28) = false := decide_eq_false (by omega)
    have b1 : decide ((a0.size : Int) < 28) = false := decide_eq_false h0
    dsimp only at h
    by_cases hq : q = true
    · rw [if_pos hq] at h
      subst hq
      obtain ⟨c, q7, h⟩ := Option.bind_eq_some_iff.mp h
      have Q7 := Aside0.mk q7
      clear q7
      by_cases hc : c = 0
      · rw [if_pos hc] at h
        subst hc
        simp only [Option.some.injEq, Prod.mk.injEq] at h
        obtain ⟨rfl, rfl, rfl, rfl, rfl, rfl⟩ := h
        go_enter Tryd.func9, Tryd.ntmps9
        have HP0 := Aside0.mk (ps_start w a0)
        go_wp2_with (first | (go_at_call 12; (with_reducible refine (arp_Check.calls _ _ _ _ _ 0 _ Q7.out).mono ?_); rintro e7 w7 ⟨rfl, hb⟩; have HR := Aside0.mk (blk_below (g := w.heap.size + 1) (o := .cells #[.int .i64 0, .int .u64 0, .int .u32 0, .int .u64 0, .int .u32 0] 25 (0, 0)) (blk_drewN (blk_alloc HP5.out.2.1 _) nd) hb); have HA := Aside0.mk (blk_below (g := w5.heap.size) (o := .cells #[.int .i64 (wrap64 t1), .int .u64 t2, .int .u32 (t3 % 4294967296), .int .u64 t4, .int .u32 (t5 % 4294967296)] 25 (0, 0)) (blk_drewN (blk_new w5 _) nd) hb); have HB7 := Aside0.mk (below_step (pw_below_drewN (below_alloc HP5.out.2.2.2 _) nd) hb); clear hb; have d0 := (blk_cell HA.out 0).trans (show _ = some (Value.int .i64 (wrap64 t1)) from rfl); have d1 := (blk_cell HA.out 1).trans (show _ = some (Value.int .u64 t2) from rfl); have d2 := (blk_cell HA.out 2).trans (show _ = some (Value.int .u32 (t3 % 4294967296)) from rfl); have d3 := (blk_cell HA.out 3).trans (show _ = some (Value.int .u64 t4) from rfl); have d4 := (blk_cell HA.out 4).trans (show _ = some (Value.int .u32 (t5 % 4294967296)) from rfl); have g0 := (blk_cell HR.out 0).trans (show _ = some (Value.int .i64 0) from rfl); have g1 := (blk_cell HR.out 1).trans (show _ = some (Value.int .u64 0) from rfl); have g2 := (blk_cell HR.out 2).trans (show _ = some (Value.int .u32 0) from rfl); have g3 := (blk_cell HR.out 3).trans (show _ = some (Value.int .u64 0) from rfl); have g4 := (blk_cell HR.out 4).trans (show _ = some (Value.int .u32 0) from rfl); have z0 := blk_frozen HR.out 0; have z1 := blk_frozen HR.out 1; have z2 := blk_frozen HR.out 2; have z3 := blk_frozen HR.out 3; have z4 := blk_frozen HR.out 4) | (go_at_call 23; (with_reducible refine (strings_HasPrefix.calls a0 _ true _ Q6.out).mono ?_); rintro e6 w6 ⟨rfl, ⟨nd, rfl⟩⟩) | (go_at_call 21; (with_reducible refine (ps_get HP4.out Q5.out (j := 28) (by decide)).mono ?_); rintro e5 w5 ⟨rfl, hp⟩; have HP5 := Aside0.mk hp; have c5 := (blk_cell hp.1 0).trans (show _ = some (Value.string a0) from rfl); have l5 := blk_lt hp.1; clear hp) | (go_at_call 21; (with_reducible refine (ps_get HP3.out Q4.out (j := 24) (by decide)).mono ?_); rintro e4 w4 ⟨rfl, hp⟩; have HP4 := Aside0.mk hp; clear hp) | (go_at_call 21; (with_reducible refine (ps_get HP2.out Q3.out (j := 18) (by decide)).mono ?_); rintro e3 w3 ⟨rfl, hp⟩; have HP3 := Aside0.mk hp; clear hp) | (go_at_call 21; (with_reducible refine (ps_get HP1.out Q2.out (j := 14) (by decide)).mono ?_); rintro e2 w2 ⟨rfl, hp⟩; have HP2 := Aside0.mk hp; clear hp) | (go_at_call 21; (with_reducible refine (ps_get HP0.out Q1.out (j := 8) (by decide)).mono ?_); rintro e1 w1 ⟨rfl, hp⟩; have HP1 := Aside0.mk hp; clear hp))
        refine bodyPost_ret (results_ct rfl _ _ (w.heap.size + 1) 25 #[.int .i64 (wrap64 t1), .int .u64 t2, .int .u32 (t3 % 4294967296), .int .u64 t4, .int .u32 (t5 % 4294967296)] (0, 0) _ rfl (by refine blk_put (cs := #[.int .i64 (wrap64 t1), .int .u64 t2, .int .u32 (t3 % 4294967296), .int .u64 t4, .int .u32 0]) ?_ 4 _ rfl; refine blk_put (cs := #[.int .i64 (wrap64 t1), .int .u64 t2, .int .u32 (t3 % 4294967296), .int .u64 0, .int .u32 0]) ?_ 3 _ rfl; refine blk_put (cs := #[.int .i64 (wrap64 t1), .int .u64 t2, .int .u32 0, .int .u64 0, .int .u32 0]) ?_ 2 _ rfl; refine blk_put (cs := #[.int .i64 (wrap64 t1), .int .u64 0, .int .u32 0, .int .u64 0, .int .u32 0]) ?_ 1 _ rfl; refine blk_put (cs := #[.int .i64 0, .int .u64 0, .int .u32 0, .int .u64 0, .int .u32 0]) ?_ 0 _ rfl; exact HR.out) hu25 rfl (by kernel_rfl)) rfl ⟨rfl, ?_⟩
        repeat (first | exact HB7.out | refine below_set ?_ (Nat.le_succ _))
      · rw [if_neg hc] at h
        simp only [Option.some.injEq, Prod.mk.injEq] at h
        obtain ⟨rfl, rfl, rfl, rfl, rfl, rfl⟩ := h
        have bc0 : (c == 0) = false := beq_eq_false_iff_ne.mpr hc
        have bc1 : (c != 0) = true := bne_iff_ne.mpr hc
        go_enter Tryd.func9, Tryd.ntmps9
        have HP0 := Aside0.mk (ps_start w a0)
        go_wp2_with (first | (go_at_call 12; (with_reducible refine (arp_Check.calls _ _ _ _ _ c _ Q7.out).mono ?_); rintro e7 w7 ⟨rfl, hb⟩; have HR := Aside0.mk (blk_below (g := w.heap.size + 1) (o := .cells #[.int .i64 0, .int .u64 0, .int .u32 0, .int .u64 0, .int .u32 0] 25 (0, 0)) (blk_drewN (blk_alloc HP5.out.2.1 _) nd) hb); have HA := Aside0.mk (blk_below (g := w5.heap.size) (o := .cells #[.int .i64 (wrap64 t1), .int .u64 t2, .int .u32 (t3 % 4294967296), .int .u64 t4, .int .u32 (t5 % 4294967296)] 25 (0, 0)) (blk_drewN (blk_new w5 _) nd) hb); have HB7 := Aside0.mk (below_step (pw_below_drewN (below_alloc HP5.out.2.2.2 _) nd) hb); clear hb; have d0 := (blk_cell HA.out 0).trans (show _ = some (Value.int .i64 (wrap64 t1)) from rfl); have d1 := (blk_cell HA.out 1).trans (show _ = some (Value.int .u64 t2) from rfl); have d2 := (blk_cell HA.out 2).trans (show _ = some (Value.int .u32 (t3 % 4294967296)) from rfl); have d3 := (blk_cell HA.out 3).trans (show _ = some (Value.int .u64 t4) from rfl); have d4 := (blk_cell HA.out 4).trans (show _ = some (Value.int .u32 (t5 % 4294967296)) from rfl); have g0 := (blk_cell HR.out 0).trans (show _ = some (Value.int .i64 0) from rfl); have g1 := (blk_cell HR.out 1).trans (show _ = some (Value.int .u64 0) from rfl); have g2 := (blk_cell HR.out 2).trans (show _ = some (Value.int .u32 0) from rfl); have g3 := (blk_cell HR.out 3).trans (show _ = some (Value.int .u64 0) from rfl); have g4 := (blk_cell HR.out 4).trans (show _ = some (Value.int .u32 0) from rfl); have z0 := blk_frozen HR.out 0; have z1 := blk_frozen HR.out 1; have z2 := blk_frozen HR.out 2; have z3 := blk_frozen HR.out 3; have z4 := blk_frozen HR.out 4) | (go_at_call 23; (with_reducible refine (strings_HasPrefix.calls a0 _ true _ Q6.out).mono ?_); rintro e6 w6 ⟨rfl, ⟨nd, rfl⟩⟩) | (go_at_call 21; (with_reducible refine (ps_get HP4.out Q5.out (j := 28) (by decide)).mono ?_); rintro e5 w5 ⟨rfl, hp⟩; have HP5 := Aside0.mk hp; have c5 := (blk_cell hp.1 0).trans (show _ = some (Value.string a0) from rfl); have l5 := blk_lt hp.1; clear hp) | (go_at_call 21; (with_reducible refine (ps_get HP3.out Q4.out (j := 24) (by decide)).mono ?_); rintro e4 w4 ⟨rfl, hp⟩; have HP4 := Aside0.mk hp; clear hp) | (go_at_call 21; (with_reducible refine (ps_get HP2.out Q3.out (j := 18) (by decide)).mono ?_); rintro e3 w3 ⟨rfl, hp⟩; have HP3 := Aside0.mk hp; clear hp) | (go_at_call 21; (with_reducible refine (ps_get HP1.out Q2.out (j := 14) (by decide)).mono ?_); rintro e2 w2 ⟨rfl, hp⟩; have HP2 := Aside0.mk hp; clear hp) | (go_at_call 21; (with_reducible refine (ps_get HP0.out Q1.out (j := 8) (by decide)).mono ?_); rintro e1 w1 ⟨rfl, hp⟩; have HP1 := Aside0.mk hp; clear hp))
        refine bodyPost_ret (results_ct rfl _ _ (w.heap.size + 1) 25 #[.int .i64 0, .int .u64 0, .int .u32 0, .int .u64 0, .int .u32 0] (0, 0) _ rfl (by refine blk_put (cs := #[.int .i64 0, .int .u64 0, .int .u32 0, .int .u64 0, .int .u32 0]) ?_ 4 _ rfl; refine blk_put (cs := #[.int .i64 0, .int .u64 0, .int .u32 0, .int .u64 0, .int .u32 0]) ?_ 3 _ rfl; refine blk_put (cs := #[.int .i64 0, .int .u64 0, .int .u32 0, .int .u64 0, .int .u32 0]) ?_ 2 _ rfl; refine blk_put (cs := #[.int .i64 0, .int .u64 0, .int .u32 0, .int .u64 0, .int .u32 0]) ?_ 1 _ rfl; refine blk_put (cs := #[.int .i64 0, .int .u64 0, .int .u32 0, .int .u64 0, .int .u32 0]) ?_ 0 _ rfl; exact HR.out) hu25 rfl (by kernel_rfl)) rfl ⟨rfl, ?_⟩
        repeat (first | exact HB7.out | refine below_set ?_ (Nat.le_succ _))
    · rw [if_neg hq] at h
      obtain rfl : q = false := Bool.eq_false_iff.2 hq
      clear hq
      simp only [Option.some.injEq, Prod.mk.injEq] at h
      obtain ⟨rfl, rfl, rfl, rfl, rfl, rfl⟩ := h
      go_enter Tryd.func9, Tryd.ntmps9
      have HP0 := Aside0.mk (ps_start w a0)
      go_wp2_with (first | (go_at_call 23; (with_reducible refine (strings_HasPrefix.calls a0 _ false _ Q6.out).mono ?_); rintro e6 w6 ⟨rfl, ⟨nd, rfl⟩⟩; have HR := Aside0.mk (blk_drewN (blk_alloc HP5.out.2.1 (.cells #[.int .i64 (wrap64 t1), .int .u64 t2, .int .u32 (t3 % 4294967296), .int .u64 t4, .int .u32 (t5 % 4294967296)] 25)) nd); have HB7 := Aside0.mk (pw_below_drewN (below_alloc HP5.out.2.2.2 (.cells #[.int .i64 (wrap64 t1), .int .u64 t2, .int .u32 (t3 % 4294967296), .int .u64 t4, .int .u32 (t5 % 4294967296)] 25)) nd); have g0 := (blk_cell HR.out 0).trans (show _ = some (Value.int .i64 0) from rfl); have g1 := (blk_cell HR.out 1).trans (show _ = some (Value.int .u64 0) from rfl); have g2 := (blk_cell HR.out 2).trans (show _ = some (Value.int .u32 0) from rfl); have g3 := (blk_cell HR.out 3).trans (show _ = some (Value.int .u64 0) from rfl); have g4 := (blk_cell HR.out 4).trans (show _ = some (Value.int .u32 0) from rfl); have z0 := blk_frozen HR.out 0; have z1 := blk_frozen HR.out 1; have z2 := blk_frozen HR.out 2; have z3 := blk_frozen HR.out 3; have z4 := blk_frozen HR.out 4) | (go_at_call 21; (with_reducible refine (ps_get HP4.out Q5.out (j := 28) (by decide)).mono ?_); rintro e5 w5 ⟨rfl, hp⟩; have HP5 := Aside0.mk hp; have c5 := (blk_cell hp.1 0).trans (show _ = some (Value.string a0) from rfl); have l5 := blk_lt hp.1; clear hp) | (go_at_call 21; (with_reducible refine (ps_get HP3.out Q4.out (j := 24) (by decide)).mono ?_); rintro e4 w4 ⟨rfl, hp⟩; have HP4 := Aside0.mk hp; clear hp) | (go_at_call 21; (with_reducible refine (ps_get HP2.out Q3.out (j := 18) (by decide)).mono ?_); rintro e3 w3 ⟨rfl, hp⟩; have HP3 := Aside0.mk hp; clear hp) | (go_at_call 21; (with_reducible refine (ps_get HP1.out Q2.out (j := 14) (by decide)).mono ?_); rintro e2 w2 ⟨rfl, hp⟩; have HP2 := Aside0.mk hp; clear hp) | (go_at_call 21; (with_reducible refine (ps_get HP0.out Q1.out (j := 8) (by decide)).mono ?_); rintro e1 w1 ⟨rfl, hp⟩; have HP1 := Aside0.mk hp; clear hp))
      refine bodyPost_ret (results_ct rfl _ _ (w.heap.size + 1) 25 #[.int .i64 0, .int .u64 0, .int .u32 0, .int .u64 0, .int .u32 0] (0, 0) _ rfl (by refine blk_put (cs := #[.int .i64 0, .int .u64 0, .int .u32 0, .int .u64 0, .int .u32 0]) ?_ 4 _ rfl; refine blk_put (cs := #[.int .i64 0, .int .u64 0, .int .u32 0, .int .u64 0, .int .u32 0]) ?_ 3 _ rfl; refine blk_put (cs := #[.int .i64 0, .int .u64 0, .int .u32 0, .int .u64 0, .int .u32 0]) ?_ 2 _ rfl; refine blk_put (cs := #[.int .i64 0, .int .u64 0, .int .u32 0, .int .u64 0, .int .u32 0]) ?_ 1 _ rfl; refine blk_put (cs := #[.int .i64 0, .int .u64 0, .int .u32 0, .int .u64 0, .int .u32 0]) ?_ 0 _ rfl; exact HR.out) hu25 rfl (by kernel_rfl)) rfl ⟨rfl, ?_⟩
      repeat (first | exact HB7.out | refine below_set ?_ (Nat.le_succ _))

/-! ### gangwayref01_Num: function 24 -/
def gangwayref01_Num.l0 : Nat → ByteArray → Int → Int → Option (Int)
  | 0, _, _, _ => none
  | k + 1, x0, x3, x4 => if x4 < (x0.size : Int) then (if 0 ≤ x4 then (gangwayref01_Num.l0 k x0 (IntKind.u64.wrap ((IntKind.u64.wrap (x3 * 256)) + (IntKind.u64.wrap (bt x0 x4)))) (wrap64 (x4 + 1))) else (none)) else (some x3)
def gangwayref01_Num.f (k : Nat) (a0 : ByteArray) : Option (Int) := gangwayref01_Num.l0 k a0 0 0
theorem gangwayref01_Num.mono_l : ∀ k, (∀ y0 y1 y2, LeO (gangwayref01_Num.l0 k y0 y1 y2) (gangwayref01_Num.l0 (k + 1) y0 y1 y2))
  | 0 => fun _ _ _ r h => by simp [gangwayref01_Num.l0] at h
  | k + 1 => by
    have ih0 := gangwayref01_Num.mono_l k
    · intro y0 y1 y2
      unfold gangwayref01_Num.l0
      repeat' first
      | (with_reducible exact ih0 _ _ _)
      | (with_reducible exact LeO.refl _)
      | (with_reducible exact LeO.none _)
      | (with_reducible refine LeO.ite ?_ ?_)
      | (with_reducible refine LeO.bind ?_ (fun _ => ?_))
      | exact ih0 _ _ _
      | exact LeO.none _
      | refine LeO.ite ?_ ?_
      | refine LeO.bind ?_ (fun _ => ?_)
theorem gangwayref01_Num.mono : ∀ a0 k, LeO (gangwayref01_Num.f k a0) (gangwayref01_Num.f (k + 1) a0) := by
  intro a0 k
  have ih0 := gangwayref01_Num.mono_l k
  unfold gangwayref01_Num.f
  repeat' first
      | (with_reducible exact ih0 _ _ _)
      | (with_reducible exact LeO.refl _)
      | (with_reducible exact LeO.none _)
      | (with_reducible refine LeO.ite ?_ ?_)
      | (with_reducible refine LeO.bind ?_ (fun _ => ?_))
      | exact ih0 _ _ _
      | exact LeO.none _
      | refine LeO.ite ?_ ?_
      | refine LeO.bind ?_ (fun _ => ?_)
set_option maxHeartbeats 8000000 in
set_option maxRecDepth 100000 in
theorem gangwayref01_Num.calls (k : Nat) (a0 : ByteArray) (r : Int) (w : World) (h : gangwayref01_Num.f k a0 = some r) :
    Calls Tryd.prog 24 #[.string a0] w fun e w' => e = .returned (.int .u64 r) ∧ Drawn0 w w' := by
  have H : (gangwayref01_Num.l0 k a0 0 0) = some r := h
  clear h
  have H' := Aside0.mk H
  clear H
  go_enter Tryd.func24, Tryd.ntmps24
  go_wp2
  go_loopg [3, 4] k (fun kq v3 v4 w' => ∃ (x3_1 : Int) (x4_1 : Int), v3 = .int .u64 x3_1 ∧ v4 = .int .i64 x4_1 ∧ Aside0 (gangwayref01_Num.l0 kq a0 x3_1 x4_1 = some r) ∧ Aside0 (kq ≤ k) ∧ Drawn0 w w')
  case atStart => exact ⟨(0), (0), (by first | rfl | (simp; done) | (simp [*]; done)), (by first | rfl | (simp; done) | (simp [*]; done)), H', ⟨Nat.le_refl _⟩, by repeat (first | exact Drawn0.refl _ | apply Drawn0.step)⟩
  case round =>
    clear H'
    obtain ⟨x3_1, x4_1, rfl, rfl, HA, HK1, ⟨m1, rfl⟩⟩ := hrel
    cases gk with
    | zero => exact absurd HA.out (by simp [gangwayref01_Num.l0])
    | succ k1 =>
      have H := HA.out
      clear HA
      simp only [gangwayref01_Num.l0] at H
      by_cases c2 : x4_1 < (a0.size : Int)
      · rw [if_pos c2] at H
        have c2b0 : decide (x4_1 < (a0.size : Int)) = true := decide_eq_true c2
        clear c2
        by_cases c3 : 0 ≤ x4_1
        · rw [if_pos c3] at H
          have c3b0 : decide (0 ≤ x4_1) = true := decide_eq_true c3
          clear c3
          have H' := Aside0.mk H
          clear H
          have p4 : 0 ≤ (x4_1 : Int) := of_decide_eq_true (by first | (with_reducible assumption) | assumption)
          have q4 : x4_1 < (a0.size : Int) := of_decide_eq_true (by first | (with_reducible assumption) | assumption)
          have hx4 := bt_at a0 x4_1
          replace p4 := eq_true p4
          replace q4 := eq_true q4
          go_wp2
          go_roundg k1
          case measure => have := HK1.out; omega
          case rel => exact ⟨(IntKind.u64.wrap ((IntKind.u64.wrap (x3_1 * 256)) + (IntKind.u64.wrap (bt a0 x4_1)))), (wrap64 (x4_1 + 1)), (by first | rfl | (simp; done) | (simp [*]; done)), (by first | rfl | (simp; done) | (simp [*]; done)), H', ⟨by have := HK1.out; omega⟩, by repeat (first | exact Drawn0.refl _ | apply Drawn0.step)⟩
        · rw [if_neg c3] at H
          exact absurd H (by simp)
      · rw [if_neg c2] at H
        have c2b0 : decide (x4_1 < (a0.size : Int)) = false := decide_eq_false c2
        clear c2
        obtain rfl := Option.some.inj H
        go_wp2
        go_ret
        exact ⟨by first | rfl | (simp; done) | (simp [*]; done), by repeat (first | exact Drawn0.refl _ | apply Drawn0.step)⟩

end Go.Proofs.YtjlikmonnnbnaaaDoor.P
