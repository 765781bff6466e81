-- slim
-- Written by wip/hprint.py (this session's program) through the kit's print program; hand contracts are marked 'by hand'.
import Derived.Test.YtbkgaplldfilnaaDoorAbb
import Derived.Test.YtbkgaplldfilnaaDoorRow
import Derived.Test.YtbkgaplldfilnaaDoorPx0
import Derived.Test.YtbkgaplldfilnaaDoorPx32
namespace Go.Proofs.YtbkgaplldfilnaaDoor.P
open Go.RowKit Go.Proofs.YtbkgaplldfilnaaDoorW.PrintWords Go.Proofs.YtbkgaplldfilnaaDoorW.PrintLast Go.Proofs.YtbkgaplldfilnaaDoorW.PrintMore
attribute [local go_sem] max2_int min2_int max_two min_two max_three min_three max_four min_four   -- for this text's walks alone
set_option linter.unusedVariables false
set_option linter.unusedSimpArgs false

theorem q6m3 {p : Prop} (h : p := by (with_reducible repeat (first | refine blk_drewN ?_ _ | refine blk_drew ?_ | refine blk_alloc ?_ _)); exact BK116.out) : p := h
theorem qem3 {p : Prop} (h : p := by (with_reducible repeat (first | refine blk_drewN ?_ _ | refine blk_drew ?_ | refine blk_alloc ?_ _)); exact BK117.out) : p := h
theorem qy9d {p : Prop} (h : p := by repeat (first | (with_reducible first | exact HB.out | apply below_alloc | apply pw_below_drewN | apply below_drew1 | refine below_set ?_ GE116.out) | exact HB.out)) : p := h
theorem q7oq {p : Prop} (h : p := by repeat (first | (with_reducible first | exact HB.out | apply below_alloc | apply pw_below_drewN | apply below_drew1 | refine below_set ?_ GE116.out | refine below_set ?_ GE117.out) | exact HB.out)) : p := h
theorem q3ma {p : Prop} (h : p := by with_reducible repeat (first | (apply blk_far; case hp => assumption) | apply blk_set | refine blk_drewN ?_ _ | refine blk_drew ?_ | refine blk_alloc ?_ _ | exact BK116.out | exact BK117.out | exact BK124.out)) : p := h
theorem q6r3 {p : Prop} (h : p := by refine blk_put (cs := #[.int .i64 0, .int .u64 0, .int .u32 0, .int .u64 0, .int .u32 0]) ?_ 4 _ rfl; refine blk_put (cs := #[.int .i64 0, .int .u64 0, .int .u32 0, .int .u64 0, .int .u32 0]) ?_ 3 _ rfl; refine blk_put (cs := #[.int .i64 0, .int .u64 0, .int .u32 0, .int .u64 0, .int .u32 0]) ?_ 2 _ rfl; refine blk_put (cs := #[.int .i64 0, .int .u64 0, .int .u32 0, .int .u64 0, .int .u32 0]) ?_ 1 _ rfl; refine blk_put (cs := #[.int .i64 0, .int .u64 0, .int .u32 0, .int .u64 0, .int .u32 0]) ?_ 0 _ rfl; exact HR.out) : p := h
/-! ### arp_Parse: function 29, by hand -/
-- CALLS gangway/octets.Get
-- CALLS gangway/arp.Check
-- CALLS strings.HasPrefix
-- CALLS gangway/octets.Get
-- CALLS gangway/arp.Check
-- CALLS strings.HasPrefix
def arp_Parse.f (k : Nat) (a0 : ByteArray) : Option (Int × Int × Int × Int × Int × Int) :=
 if (a0.size : Int) < 28 then some (0, 0, 0, 0, 0, 50) else
 (octets_Get.f k a0 6 2).bind fun g1 => (octets_Get.f k a0 8 6).bind fun g2 => (octets_Get.f k a0 14 4).bind fun g3 => (octets_Get.f k a0 18 6).bind fun g4 => (octets_Get.f k a0 24 4).bind fun g5 =>
 (strings_HasPrefix.f a0 (⟨#[0, 1, 8, 0, 6, 4]⟩ : ByteArray)).bind fun q => if q = true then
  (arp_Check.f (wrap64 g1.1) g2.1 (g3.1 % 4294967296) g4.1 (g5.1 % 4294967296)).bind fun c => if c = 0 then some (wrap64 g1.1, g2.1, g3.1 % 4294967296, g4.1, g5.1 % 4294967296, 0) else some (0, 0, 0, 0, 0, 51)
 else some (0, 0, 0, 0, 0, 51)
theorem alloc_three (w : World) (A B C : Obj) : (((w.alloc A).alloc B).alloc C).heap[w.heap.size]? = some A ∧ (((w.alloc A).alloc B).alloc C).heap[w.heap.size + 1]? = some B ∧ (((w.alloc A).alloc B).alloc C).heap[w.heap.size + 2]? = some C := by
 have h1 : (w.alloc A).heap.size = w.heap.size + 1 := Array.size_push _
 have h2 : ((w.alloc A).alloc B).heap.size = w.heap.size + 2 := (Array.size_push _).trans (by rw [h1])
 refine ⟨blk_alloc (blk_alloc (blk_new w A) B) C, blk_alloc ?_ C, ?_⟩
 ·rw [← h1]
  exact blk_new _ B
 ·rw [← h2]
  exact blk_new _ C
set_option maxHeartbeats 2000000 in
theorem arp_get_calls (k : Nat) (bs ba : Nat) (s : ByteArray) (i n : Int) (r1 r2 : Int) (w : World) (hne : bs ≠ ba) (hs : w.heap[bs]? = some (.cells #[.string s] 9 (0, 0))) (ha : w.heap[ba]? = some (.cells #[.int .i64 i] 3 (0, 0))) (h : octets_Get.f k s i n = some (r1, r2)) :
  Calls Tryd.prog 55 #[.int .i64 n, .pointer (some ⟨bs, 0, none⟩), .pointer (some ⟨ba, 0, none⟩)] w fun e w' => e = .returned (.int .u64 r1) ∧ w'.heap[bs]? = some (.cells #[.string s] 9 (0, 0)) ∧ w'.heap[ba]? = some (.cells #[.int .i64 (wrap64 (i + n))] 3 (0, 0)) ∧ (∀ g, g ≠ ba → g < w.heap.size → w'.heap[g]? = w.heap[g]?) ∧ (∀ B, B ≤ ba → B ≤ w.heap.size → Below B w w') := by
 have HO := Aside0.mk h
 have c0 := blk_cell hs 0
 have c1 := blk_cell ha 0
 have HS := Aside0.mk hs
 have HA := Aside0.mk ha
 clear hs ha h
 go_enter Tryd.func55, Tryd.ntmps55
 go_wp2_with (go_at_call 56; (with_reducible refine (octets_Get.calls k _ _ _ r1 r2 _ HO.out).mono ?_); rintro e1 w1 ⟨rfl, hb1⟩; have hk := blk_below HA.out hb1; have d1 := blk_cell hk 0; have f1 := blk_frozen hk 0)
 go_ret
 refine ⟨rfl, blk_far (blk_below HS.out hb1) hne _, blk_put hk 0 _ rfl, ?_, ?_⟩
 ·intro g hg hlt
  exact (Below.heap_setCell w1 ⟨ba, 0, none⟩ _ g hg).trans (hb1.block g hlt)
 ·intro B hB hBw
  exact (hb1.mono hBw).setCell hB _
def PS (w : World) (s : ByteArray) (i : Int) (wc : World) : Prop :=
 wc.heap[w.heap.size]? = some (.cells #[.string s] 9 (0, 0)) ∧ wc.heap[w.heap.size + 1]? = some (.cells #[.int .i64 0, .int .u64 0, .int .u32 0, .int .u64 0, .int .u32 0] 35 (0, 0)) ∧ wc.heap[w.heap.size + 1 + 1]? = some (.cells #[.int .i64 i] 3 (0, 0)) ∧ Below w.heap.size w wc
theorem ps_get {k : Nat} {w wc : World} {s : ByteArray} {i n j : Int} {r1 r2 : Int} (hp : PS w s i wc) (h : octets_Get.f k s i n = some (r1, r2)) (hj : i + n = j ∧ 0 ≤ j ∧ j < 100) :
  Calls Tryd.prog 55 #[.int .i64 n, .pointer (some ⟨w.heap.size, 0, none⟩), .pointer (some ⟨w.heap.size + 1 + 1, 0, none⟩)] wc fun e w' => e = .returned (.int .u64 r1) ∧ PS w s j w' := by
 obtain ⟨h1, h2, h3, h4⟩ := hp
 refine (arp_get_calls k _ _ s i n r1 r2 wc q1jy h1 h3 h).mono ?_
 rintro e w' ⟨rfl, k1, k2, k3, k4⟩
 rw [show wrap64 (i + n) = j by unfold wrap64; omega] at k2
 refine ⟨rfl, k1, ?_, k2, h4.trans (k4 _ q1jy h4.size)⟩
 rw [k3 _ q1jy (blk_lt h2)]
 exact h2
theorem ps_start (w : World) (s : ByteArray) : PS w s 6 (((w.alloc (.cells #[.string s] 9)).alloc (.cells #[.int .i64 0, .int .u64 0, .int .u32 0, .int .u64 0, .int .u32 0] 35)).alloc (.cells #[.int .i64 6] 3)) := by
 obtain ⟨h1, h2, h3⟩ := alloc_three w (.cells #[.string s] 9) (.cells #[.int .i64 0, .int .u64 0, .int .u32 0, .int .u64 0, .int .u32 0] 35) (.cells #[.int .i64 6] 3)
 refine ⟨h1, h2, h3, ?_⟩
 repeat (first | exact Below.refl _ _ | apply below_alloc)
theorem arp_Parse.mono : ∀ a0 k, LeO (arp_Parse.f k a0) (arp_Parse.f (k + 1) a0) := by
 intro a0 k
 unfold arp_Parse.f
 refine LeO.ite (fun r h => h) ?_
 refine LeO.bind (octets_Get.mono _ _ _ _) (fun g1 => ?_)
 refine LeO.bind (octets_Get.mono _ _ _ _) (fun g2 => ?_)
 refine LeO.bind (octets_Get.mono _ _ _ _) (fun g3 => ?_)
 refine LeO.bind (octets_Get.mono _ _ _ _) (fun g4 => ?_)
 refine LeO.bind (octets_Get.mono _ _ _ _) (fun g5 => ?_)
 exact fun r h => h
set_option maxHeartbeats 4000000 in
set_option maxRecDepth 100000 in
theorem arp_Parse.calls (k : Nat) (a0 : ByteArray) (r1_0 r1_1 r1_2 r1_3 r1_4 r2 : Int) (w : World) (h : arp_Parse.f k a0 = some (r1_0, r1_1, r1_2, r1_3, r1_4, r2)) :
  Calls Tryd.prog 29 #[.string a0] w fun e w' => e = .returned (.tuple #[.agg #[.int .i64 r1_0, .int .u64 r1_1, .int .u32 r1_2, .int .u64 r1_3, .int .u32 r1_4], .int .i64 r2]) ∧ Below w.heap.size w w' := by
 unfold arp_Parse.f at h
 have hu25 := Tryd.underlying35
 by_cases h0 : (a0.size : Int) < 28
 ·rw [if_pos h0] at h
  obtain ⟨rfl, rfl, rfl, rfl, rfl, rfl⟩ : 0 = r1_0 ∧ 0 = r1_1 ∧ 0 = r1_2 ∧ 0 = r1_3 ∧ 0 = r1_4 ∧ 50 = r2 := by simpa using Option.some.inj h
  clear h
  have b0 : decide (a0.size < 28) = true := decide_eq_true q1jy
  have b1 : decide ((a0.size : Int) < 28) = true := decide_eq_true h0
  have HS := Aside0.mk (ps_start w a0)
  go_enter Tryd.func29, Tryd.ntmps29
  go_wp2
  refine bodyPost_ret (results_ct rfl _ _ (w.heap.size + 1) 35 #[.int .i64 0, .int .u64 0, .int .u32 0, .int .u64 0, .int .u32 0] (0, 0) _ rfl ?_ hu25 rfl qg3m) rfl ⟨rfl, ?_⟩
  ·have e : (w.alloc (.cells #[.string a0] 9)).heap.size = w.heap.size + 1 := Array.size_push _
   rw [← e]
   exact blk_new _ _
  ·exact below_alloc (below_alloc (Below.refl _ _) _) _
 ·rw [if_neg h0] at h
  obtain ⟨⟨t1, e1⟩, q1, h⟩ := Option.bind_eq_some_iff.mp h
  obtain ⟨⟨t2, e2⟩, q2, h⟩ := Option.bind_eq_some_iff.mp h
  obtain ⟨⟨t3, e3⟩, q3, h⟩ := Option.bind_eq_some_iff.mp h
  obtain ⟨⟨t4, e4⟩, q4, h⟩ := Option.bind_eq_some_iff.mp h
  obtain ⟨⟨t5, e5⟩, q5, h⟩ := Option.bind_eq_some_iff.mp h
  obtain ⟨q, q6, h⟩ := Option.bind_eq_some_iff.mp h
  have Q1 := Aside0.mk q1; have Q2 := Aside0.mk q2; have Q3 := Aside0.mk q3; have Q4 := Aside0.mk q4; have Q5 := Aside0.mk q5; have Q6 := Aside0.mk q6
  clear q1 q2 q3 q4 q5 q6
  have b0 : decide (a0.size < 28) = false := decide_eq_false q1jy
  have b1 : decide ((a0.size : Int) < 28) = false := decide_eq_false h0
  dsimp only at h
  by_cases hq : q = true
  ·rw [if_pos hq] at h
   subst hq
   obtain ⟨c, q7, h⟩ := Option.bind_eq_some_iff.mp h
   have Q7 := Aside0.mk q7
   clear q7
   by_cases hc : c = 0
   ·rw [if_pos hc] at h
    subst hc
    simp only [Option.some.injEq, Prod.mk.injEq] at h
    obtain ⟨rfl, rfl, rfl, rfl, rfl, rfl⟩ := h
    go_enter Tryd.func29, Tryd.ntmps29
    have HP0 := Aside0.mk (ps_start w a0)
    go_wp2_with (first | (go_at_call 58; (with_reducible refine (arp_Check.calls _ _ _ _ _ 0 _ Q7.out).mono ?_); rintro e7 w7 ⟨rfl, hb⟩; have HR := Aside0.mk (blk_below (g := w.heap.size + 1) (o := .cells #[.int .i64 0, .int .u64 0, .int .u32 0, .int .u64 0, .int .u32 0] 35 (0, 0)) (blk_drewN (blk_alloc HP5.out.2.1 _) nd) hb); have HA := Aside0.mk (blk_below (g := w5.heap.size) (o := .cells #[.int .i64 (wrap64 t1), .int .u64 t2, .int .u32 (t3 % 4294967296), .int .u64 t4, .int .u32 (t5 % 4294967296)] 35 (0, 0)) (blk_drewN (blk_new w5 _) nd) hb); have HB7 := Aside0.mk (below_step (pw_below_drewN (below_alloc HP5.out.2.2.2 _) nd) hb); clear hb; have d0 := (blk_cell HA.out 0).trans (show _ = some (Value.int .i64 (wrap64 t1)) from rfl); have d1 := (blk_cell HA.out 1).trans (show _ = some (Value.int .u64 t2) from rfl); have d2 := (blk_cell HA.out 2).trans (show _ = some (Value.int .u32 (t3 % 4294967296)) from rfl); have d3 := (blk_cell HA.out 3).trans (show _ = some (Value.int .u64 t4) from rfl); have d4 := (blk_cell HA.out 4).trans (show _ = some (Value.int .u32 (t5 % 4294967296)) from rfl); have g0 := (blk_cell HR.out 0).trans (show _ = some (Value.int .i64 0) from rfl); have g1 := (blk_cell HR.out 1).trans (show _ = some (Value.int .u64 0) from rfl); have g2 := (blk_cell HR.out 2).trans (show _ = some (Value.int .u32 0) from rfl); have g3 := (blk_cell HR.out 3).trans (show _ = some (Value.int .u64 0) from rfl); have g4 := (blk_cell HR.out 4).trans (show _ = some (Value.int .u32 0) from rfl); have z0 := blk_frozen HR.out 0; have z1 := blk_frozen HR.out 1; have z2 := blk_frozen HR.out 2; have z3 := blk_frozen HR.out 3; have z4 := blk_frozen HR.out 4) | (go_at_call 57; (with_reducible refine (strings_HasPrefix.calls a0 _ true _ Q6.out).mono ?_); rintro e6 w6 ⟨rfl, ⟨nd, rfl⟩⟩) | (go_at_call 55; (with_reducible refine (ps_get HP4.out Q5.out (j := 28) qomw).mono ?_); rintro e5 w5 ⟨rfl, hp⟩; have HP5 := Aside0.mk hp; have c5 := (blk_cell hp.1 0).trans (show _ = some (Value.string a0) from rfl); have l5 := blk_lt hp.1; clear hp) | (go_at_call 55; (with_reducible refine (ps_get HP3.out Q4.out (j := 24) qomw).mono ?_); rintro e4 w4 ⟨rfl, hp⟩; have HP4 := Aside0.mk hp; clear hp) | (go_at_call 55; (with_reducible refine (ps_get HP2.out Q3.out (j := 18) qomw).mono ?_); rintro e3 w3 ⟨rfl, hp⟩; have HP3 := Aside0.mk hp; clear hp) | (go_at_call 55; (with_reducible refine (ps_get HP1.out Q2.out (j := 14) qomw).mono ?_); rintro e2 w2 ⟨rfl, hp⟩; have HP2 := Aside0.mk hp; clear hp) | (go_at_call 55; (with_reducible refine (ps_get HP0.out Q1.out (j := 8) qomw).mono ?_); rintro e1 w1 ⟨rfl, hp⟩; have HP1 := Aside0.mk hp; clear hp))
    refine bodyPost_ret (results_ct rfl _ _ (w.heap.size + 1) 35 #[.int .i64 (wrap64 t1), .int .u64 t2, .int .u32 (t3 % 4294967296), .int .u64 t4, .int .u32 (t5 % 4294967296)] (0, 0) _ rfl (by refine blk_put (cs := #[.int .i64 (wrap64 t1), .int .u64 t2, .int .u32 (t3 % 4294967296), .int .u64 t4, .int .u32 0]) ?_ 4 _ rfl; refine blk_put (cs := #[.int .i64 (wrap64 t1), .int .u64 t2, .int .u32 (t3 % 4294967296), .int .u64 0, .int .u32 0]) ?_ 3 _ rfl; refine blk_put (cs := #[.int .i64 (wrap64 t1), .int .u64 t2, .int .u32 0, .int .u64 0, .int .u32 0]) ?_ 2 _ rfl; refine blk_put (cs := #[.int .i64 (wrap64 t1), .int .u64 0, .int .u32 0, .int .u64 0, .int .u32 0]) ?_ 1 _ rfl; refine blk_put (cs := #[.int .i64 0, .int .u64 0, .int .u32 0, .int .u64 0, .int .u32 0]) ?_ 0 _ rfl; exact HR.out) hu25 rfl qg3m) rfl ⟨rfl, ?_⟩
    repeat (first | exact HB7.out | refine below_set ?_ (Nat.le_succ _))
   ·rw [if_neg hc] at h
    simp only [Option.some.injEq, Prod.mk.injEq] at h
    obtain ⟨rfl, rfl, rfl, rfl, rfl, rfl⟩ := h
    have bc0 : (c == 0) = false := beq_eq_false_iff_ne.mpr hc
    have bc1 : (c != 0) = true := bne_iff_ne.mpr hc
    go_enter Tryd.func29, Tryd.ntmps29
    have HP0 := Aside0.mk (ps_start w a0)
    go_wp2_with (first | (go_at_call 58; (with_reducible refine (arp_Check.calls _ _ _ _ _ c _ Q7.out).mono ?_); rintro e7 w7 ⟨rfl, hb⟩; have HR := Aside0.mk (blk_below (g := w.heap.size + 1) (o := .cells #[.int .i64 0, .int .u64 0, .int .u32 0, .int .u64 0, .int .u32 0] 35 (0, 0)) (blk_drewN (blk_alloc HP5.out.2.1 _) nd) hb); have HA := Aside0.mk (blk_below (g := w5.heap.size) (o := .cells #[.int .i64 (wrap64 t1), .int .u64 t2, .int .u32 (t3 % 4294967296), .int .u64 t4, .int .u32 (t5 % 4294967296)] 35 (0, 0)) (blk_drewN (blk_new w5 _) nd) hb); have HB7 := Aside0.mk (below_step (pw_below_drewN (below_alloc HP5.out.2.2.2 _) nd) hb); clear hb; have d0 := (blk_cell HA.out 0).trans (show _ = some (Value.int .i64 (wrap64 t1)) from rfl); have d1 := (blk_cell HA.out 1).trans (show _ = some (Value.int .u64 t2) from rfl); have d2 := (blk_cell HA.out 2).trans (show _ = some (Value.int .u32 (t3 % 4294967296)) from rfl); have d3 := (blk_cell HA.out 3).trans (show _ = some (Value.int .u64 t4) from rfl); have d4 := (blk_cell HA.out 4).trans (show _ = some (Value.int .u32 (t5 % 4294967296)) from rfl); have g0 := (blk_cell HR.out 0).trans (show _ = some (Value.int .i64 0) from rfl); have g1 := (blk_cell HR.out 1).trans (show _ = some (Value.int .u64 0) from rfl); have g2 := (blk_cell HR.out 2).trans (show _ = some (Value.int .u32 0) from rfl); have g3 := (blk_cell HR.out 3).trans (show _ = some (Value.int .u64 0) from rfl); have g4 := (blk_cell HR.out 4).trans (show _ = some (Value.int .u32 0) from rfl); have z0 := blk_frozen HR.out 0; have z1 := blk_frozen HR.out 1; have z2 := blk_frozen HR.out 2; have z3 := blk_frozen HR.out 3; have z4 := blk_frozen HR.out 4) | (go_at_call 57; (with_reducible refine (strings_HasPrefix.calls a0 _ true _ Q6.out).mono ?_); rintro e6 w6 ⟨rfl, ⟨nd, rfl⟩⟩) | (go_at_call 55; (with_reducible refine (ps_get HP4.out Q5.out (j := 28) qomw).mono ?_); rintro e5 w5 ⟨rfl, hp⟩; have HP5 := Aside0.mk hp; have c5 := (blk_cell hp.1 0).trans (show _ = some (Value.string a0) from rfl); have l5 := blk_lt hp.1; clear hp) | (go_at_call 55; (with_reducible refine (ps_get HP3.out Q4.out (j := 24) qomw).mono ?_); rintro e4 w4 ⟨rfl, hp⟩; have HP4 := Aside0.mk hp; clear hp) | (go_at_call 55; (with_reducible refine (ps_get HP2.out Q3.out (j := 18) qomw).mono ?_); rintro e3 w3 ⟨rfl, hp⟩; have HP3 := Aside0.mk hp; clear hp) | (go_at_call 55; (with_reducible refine (ps_get HP1.out Q2.out (j := 14) qomw).mono ?_); rintro e2 w2 ⟨rfl, hp⟩; have HP2 := Aside0.mk hp; clear hp) | (go_at_call 55; (with_reducible refine (ps_get HP0.out Q1.out (j := 8) qomw).mono ?_); rintro e1 w1 ⟨rfl, hp⟩; have HP1 := Aside0.mk hp; clear hp))
    refine bodyPost_ret (results_ct rfl _ _ (w.heap.size + 1) 35 #[.int .i64 0, .int .u64 0, .int .u32 0, .int .u64 0, .int .u32 0] (0, 0) _ rfl q6r3 hu25 rfl qg3m) rfl ⟨rfl, ?_⟩
    repeat (first | exact HB7.out | refine below_set ?_ (Nat.le_succ _))
  ·rw [if_neg hq] at h
   obtain rfl : q = false := Bool.eq_false_iff.2 hq
   clear hq
   simp only [Option.some.injEq, Prod.mk.injEq] at h
   obtain ⟨rfl, rfl, rfl, rfl, rfl, rfl⟩ := h
   go_enter Tryd.func29, Tryd.ntmps29
   have HP0 := Aside0.mk (ps_start w a0)
   go_wp2_with (first | (go_at_call 57; (with_reducible refine (strings_HasPrefix.calls a0 _ false _ Q6.out).mono ?_); rintro e6 w6 ⟨rfl, ⟨nd, rfl⟩⟩; have HR := Aside0.mk (blk_drewN (blk_alloc HP5.out.2.1 (.cells #[.int .i64 (wrap64 t1), .int .u64 t2, .int .u32 (t3 % 4294967296), .int .u64 t4, .int .u32 (t5 % 4294967296)] 35)) nd); have HB7 := Aside0.mk (pw_below_drewN (below_alloc HP5.out.2.2.2 (.cells #[.int .i64 (wrap64 t1), .int .u64 t2, .int .u32 (t3 % 4294967296), .int .u64 t4, .int .u32 (t5 % 4294967296)] 35)) nd); have g0 := (blk_cell HR.out 0).trans (show _ = some (Value.int .i64 0) from rfl); have g1 := (blk_cell HR.out 1).trans (show _ = some (Value.int .u64 0) from rfl); have g2 := (blk_cell HR.out 2).trans (show _ = some (Value.int .u32 0) from rfl); have g3 := (blk_cell HR.out 3).trans (show _ = some (Value.int .u64 0) from rfl); have g4 := (blk_cell HR.out 4).trans (show _ = some (Value.int .u32 0) from rfl); have z0 := blk_frozen HR.out 0; have z1 := blk_frozen HR.out 1; have z2 := blk_frozen HR.out 2; have z3 := blk_frozen HR.out 3; have z4 := blk_frozen HR.out 4) | (go_at_call 55; (with_reducible refine (ps_get HP4.out Q5.out (j := 28) qomw).mono ?_); rintro e5 w5 ⟨rfl, hp⟩; have HP5 := Aside0.mk hp; have c5 := (blk_cell hp.1 0).trans (show _ = some (Value.string a0) from rfl); have l5 := blk_lt hp.1; clear hp) | (go_at_call 55; (with_reducible refine (ps_get HP3.out Q4.out (j := 24) qomw).mono ?_); rintro e4 w4 ⟨rfl, hp⟩; have HP4 := Aside0.mk hp; clear hp) | (go_at_call 55; (with_reducible refine (ps_get HP2.out Q3.out (j := 18) qomw).mono ?_); rintro e3 w3 ⟨rfl, hp⟩; have HP3 := Aside0.mk hp; clear hp) | (go_at_call 55; (with_reducible refine (ps_get HP1.out Q2.out (j := 14) qomw).mono ?_); rintro e2 w2 ⟨rfl, hp⟩; have HP2 := Aside0.mk hp; clear hp) | (go_at_call 55; (with_reducible refine (ps_get HP0.out Q1.out (j := 8) qomw).mono ?_); rintro e1 w1 ⟨rfl, hp⟩; have HP1 := Aside0.mk hp; clear hp))
   refine bodyPost_ret (results_ct rfl _ _ (w.heap.size + 1) 35 #[.int .i64 0, .int .u64 0, .int .u32 0, .int .u64 0, .int .u32 0] (0, 0) _ rfl q6r3 hu25 rfl qg3m) rfl ⟨rfl, ?_⟩
   repeat (first | exact HB7.out | refine below_set ?_ (Nat.le_succ _))

/-! ### arp_Of: function 14 -/
def arp_Of.f (k : Nat) (a0_0 : Int) (a0_1 : Int) (a0_2 : Bool) (a0_3 : Int) (a0_4 : Bool) (a0_5 : Int) (a0_6 : Int) (a0_7 : ByteArray) : Option (Int × Int × Int × Int × Int × Bool) := if a0_6 = 2054 then ((arp_Parse.f k a0_7).bind fun bt118 => (some (bt118.1, bt118.2.1, bt118.2.2.1, bt118.2.2.2.1, bt118.2.2.2.2.1, (bt118.2.2.2.2.2 == 0)))) else (some (0, 0, 0, 0, 0, false))
theorem arp_Of.mono : ∀ a0 a1 a2 a3 a4 a5 a6 a7 k, LeO (arp_Of.f k a0 a1 a2 a3 a4 a5 a6 a7) (arp_Of.f (k + 1) a0 a1 a2 a3 a4 a5 a6 a7) := by
 intro a0 a1 a2 a3 a4 a5 a6 a7 k
 unfold arp_Of.f
 repeat' first
   | (with_reducible exact arp_Parse.mono _ _)
   | (with_reducible exact LeO.refl _)
   | (with_reducible exact LeO.none _)
   | (with_reducible refine LeO.ite ?_ ?_)
   | (with_reducible refine LeO.bind ?_ (fun _ => ?_))
   | exact arp_Parse.mono _ _
   | exact LeO.none _
   | refine LeO.ite ?_ ?_
   | refine LeO.bind ?_ (fun _ => ?_)
set_option maxHeartbeats 8000000 in
set_option maxRecDepth 100000 in
theorem arp_Of.calls (k : Nat) (a0_0 : Int) (a0_1 : Int) (a0_2 : Bool) (a0_3 : Int) (a0_4 : Bool) (a0_5 : Int) (a0_6 : Int) (a0_7 : ByteArray) (r1 : Int) (r2 : Int) (r3 : Int) (r4 : Int) (r5 : Int) (r6 : Bool) (w : World) (h : arp_Of.f k a0_0 a0_1 a0_2 a0_3 a0_4 a0_5 a0_6 a0_7 = some (r1, r2, r3, r4, r5, r6)) :
  Calls Tryd.prog 14 #[.agg #[.int .u64 a0_0, .int .u64 a0_1, .bool a0_2, .int .i64 a0_3, .bool a0_4, .int .i64 a0_5, .int .i64 a0_6, .string a0_7]] w fun e w' => e = .returned (.tuple #[.agg #[.int .i64 r1, .int .u64 r2, .int .u32 r3, .int .u64 r4, .int .u32 r5], .bool r6]) ∧ Below w.heap.size w w' := by
 have hu29 := Tryd.underlying29
 have hu35 := Tryd.underlying35
 have HB := Aside0.mk (Below.refl w.heap.size w)
 have H := h
 unfold arp_Of.f at H
 clear h
 by_cases c2 : a0_6 = 2054
 ·rw [if_pos c2] at H
  have c2b0 : (a0_6 == 2054) = true := beq_iff_eq.mpr c2
  have c2b1 : (a0_6 != 2054) = false := bne_eq_false_iff_eq.mpr c2
  clear c2
  replace H := Option.bind_eq_some_iff.mp H
  obtain ⟨⟨t118, t119, t120, t121, t122, t123⟩, A30, H⟩ := H
  try dsimp only at H
  have A3 := Aside0.mk A30
  clear A30
  simp only [Option.some.injEq, Prod.mk.injEq] at H
  obtain ⟨rfl, rfl, rfl, rfl, rfl, rfl⟩ := H
  go_enter Tryd.func14, Tryd.ntmps14
  go_wp2_with (first | ((with_reducible refine gate_st (ty := 29) rfl ?_); refine storeC8 rfl rfl rfl rfl rfl q3ma qr2c qg3m rfl ?_) | ((with_reducible refine gate_ld (ty := 29) rfl ?_); (try (with_reducible refine gate_gd rfl ?_; refine gate_guard q8ju ?_; dsimp only)); refine load_st rfl rfl rfl q3ma qr2c Tryd.underlying29 rfl qg3m ?_; (try simp only [Act.put, List.setIfInBounds_toArray, List.set_cons_zero, List.set_cons_succ])) | ((with_reducible refine gate_st (ty := 35) rfl ?_); refine storeC5 rfl rfl rfl rfl rfl q3ma qr2c qg3m rfl ?_) | ((with_reducible refine gate_ld (ty := 35) rfl ?_); (try (with_reducible refine gate_gd rfl ?_; refine gate_guard q8ju ?_; dsimp only)); refine load_st rfl rfl rfl q3ma qr2c Tryd.underlying35 rfl qg3m ?_; (try simp only [Act.put, List.setIfInBounds_toArray, List.set_cons_zero, List.set_cons_succ])) | ((with_reducible refine gate_dst (N := 1) rfl ?_); refine box_event qgcr (N := 1) qgcr (cs := #[.int .u64 a0_0, .int .u64 a0_1, .bool a0_2, .int .i64 a0_3, .bool a0_4, .int .i64 a0_5, .int .i64 a0_6, .string a0_7]) (t := 29) qlto ?_; intro gb116 hg w4 hbox hb; have BK116 := Aside0.mk (hbox); have GE116 := Aside0.mk ((qisx : w.heap.size ≤ gb116)); replace HB := Aside0.mk (below_step qpag hb); clear hb hbox hg) | ((with_reducible refine gate_dst (N := 2) rfl ?_); refine box_event qgcr (N := 2) qgcr (cs := #[.int .i64 0, .int .u64 0, .int .u32 0, .int .u64 0, .int .u32 0]) (t := 35) qlto ?_; intro gb117 hg w5 hbox hb; have BK117 := Aside0.mk (hbox); have GE117 := Aside0.mk ((by rw [hg]; exact (below_size qy9d) : w.heap.size ≤ gb117)); have NB116_117 := Aside0.mk ((by rw [hg]; exact Nat.ne_of_lt (blk_lt (g := gb116) q6m3) : gb116 ≠ gb117)); have NB117_116 := Aside0.mk ((by rw [hg]; exact Nat.ne_of_gt (blk_lt (g := gb116) q6m3) : gb117 ≠ gb116)); replace BK116 := Aside0.mk (blk_below (g := gb116) q6m3 hb); replace HB := Aside0.mk (below_step qy9d hb); clear hb hbox hg; have hnb6 := NB116_117.out; have hnc6 := NB117_116.out; obtain ⟨hcz7_0, hcz7_1, hcz7_2, hcz7_3, hcz7_4, hcz7_5, hcz7_6, hcz7_7⟩ := cells8 BK116.out; obtain ⟨hfz7_0, hfz7_1, hfz7_2, hfz7_3, hfz7_4, hfz7_5, hfz7_6, hfz7_7⟩ := frozen8 BK116.out) | ((with_reducible refine gate_callee (f := 29) rfl ?_); refine goesL_ (some 13) rfl rfl Tryd.func29 qg3m rfl #[.string a0_7] rfl qraq ?_; (with_reducible refine (arp_Parse.calls k a0_7 t118 t119 t120 t121 t122 t123 _ A3.out).mono ?_); rintro e w8 ⟨rfl, hb⟩; refine ⟨_, rfl, ?_⟩; replace BK116 := Aside0.mk (blk_below (g := gb116) q6m3 hb); replace BK117 := Aside0.mk (blk_below (g := gb117) qem3 hb); replace HB := Aside0.mk (below_step q7oq hb); obtain ⟨hcy2_116_0, hcy2_116_1, hcy2_116_2, hcy2_116_3, hcy2_116_4, hcy2_116_5, hcy2_116_6, hcy2_116_7⟩ := cells8 BK116.out; (try clear hb); (try clear hb2); (try clear hk); (try clear hi)) | ((with_reducible refine gate_dst (N := 4) rfl ?_); refine box_event qgcr (N := 4) qgcr (cs := #[.int .i64 0, .int .u64 0, .int .u32 0, .int .u64 0, .int .u32 0]) (t := 35) qlto ?_; intro gb124 hg w9 hbox hb; have BK124 := Aside0.mk (hbox); have GE124 := Aside0.mk ((by rw [hg]; exact (below_size q7oq) : w.heap.size ≤ gb124)); have NB116_124 := Aside0.mk ((by rw [hg]; exact Nat.ne_of_lt (blk_lt (g := gb116) q6m3) : gb116 ≠ gb124)); have NB124_116 := Aside0.mk ((by rw [hg]; exact Nat.ne_of_gt (blk_lt (g := gb116) q6m3) : gb124 ≠ gb116)); have NB117_124 := Aside0.mk ((by rw [hg]; exact Nat.ne_of_lt (blk_lt (g := gb117) qem3) : gb117 ≠ gb124)); have NB124_117 := Aside0.mk ((by rw [hg]; exact Nat.ne_of_gt (blk_lt (g := gb117) qem3) : gb124 ≠ gb117)); replace BK116 := Aside0.mk (blk_below (g := gb116) q6m3 hb); replace BK117 := Aside0.mk (blk_below (g := gb117) qem3 hb); replace HB := Aside0.mk (below_step q7oq hb); obtain ⟨hcy3_116_0, hcy3_116_1, hcy3_116_2, hcy3_116_3, hcy3_116_4, hcy3_116_5, hcy3_116_6, hcy3_116_7⟩ := cells8 BK116.out; clear hb hbox hg; have hnb10 := NB124_116.out; have hnc10 := NB116_124.out; have hnb11 := NB124_117.out; have hnc11 := NB117_124.out; obtain ⟨hcz12_0, hcz12_1, hcz12_2, hcz12_3, hcz12_4⟩ := cells5 BK124.out; obtain ⟨hfz12_0, hfz12_1, hfz12_2, hfz12_3, hfz12_4⟩ := frozen5 BK124.out; obtain ⟨hcz13_0, hcz13_1, hcz13_2, hcz13_3, hcz13_4⟩ := cells5 BK117.out; obtain ⟨hfz13_0, hfz13_1, hfz13_2, hfz13_3, hfz13_4⟩ := frozen5 BK117.out))
  refine bodyPost_ret (results_ct rfl _ _ gb117 35 #[.int .i64 t118, .int .u64 t119, .int .u32 t120, .int .u64 t121, .int .u32 t122] (0, 0) _ rfl (by (with_reducible repeat (first | refine blk_drewN ?_ _ | refine blk_drew ?_ | refine blk_alloc ?_ _)); exact put5_0_5 (by (with_reducible repeat (first | refine blk_drewN ?_ _ | refine blk_drew ?_ | refine blk_alloc ?_ _ | refine blk_far ?_ NB117_124.out _)); exact BK117.out)) Tryd.underlying35 rfl qg3m) rfl ?_
  exact ⟨qxu5, (by repeat (first | (with_reducible first | exact HB.out | apply below_alloc | apply pw_below_drewN | apply below_drew1 | refine below_set ?_ GE116.out | refine below_set ?_ GE117.out | refine below_set ?_ GE124.out) | exact HB.out))⟩
 ·rw [if_neg c2] at H
  have c2b0 : (a0_6 == 2054) = false := beq_eq_false_iff_ne.mpr c2
  have c2b1 : (a0_6 != 2054) = true := bne_iff_ne.mpr c2
  simp only [Option.some.injEq, Prod.mk.injEq] at H
  obtain ⟨rfl, rfl, rfl, rfl, rfl, rfl⟩ := H
  go_enter Tryd.func14, Tryd.ntmps14
  go_wp2_with (first | ((with_reducible refine gate_st (ty := 29) rfl ?_); refine storeC8 rfl rfl rfl rfl rfl q3ma qr2c qg3m rfl ?_) | ((with_reducible refine gate_ld (ty := 29) rfl ?_); (try (with_reducible refine gate_gd rfl ?_; refine gate_guard q8ju ?_; dsimp only)); refine load_st rfl rfl rfl q3ma qr2c Tryd.underlying29 rfl qg3m ?_; (try simp only [Act.put, List.setIfInBounds_toArray, List.set_cons_zero, List.set_cons_succ])) | ((with_reducible refine gate_st (ty := 35) rfl ?_); refine storeC5 rfl rfl rfl rfl rfl q3ma qr2c qg3m rfl ?_) | ((with_reducible refine gate_ld (ty := 35) rfl ?_); (try (with_reducible refine gate_gd rfl ?_; refine gate_guard q8ju ?_; dsimp only)); refine load_st rfl rfl rfl q3ma qr2c Tryd.underlying35 rfl qg3m ?_; (try simp only [Act.put, List.setIfInBounds_toArray, List.set_cons_zero, List.set_cons_succ])) | ((with_reducible refine gate_dst (N := 1) rfl ?_); refine box_event qgcr (N := 1) qgcr (cs := #[.int .u64 a0_0, .int .u64 a0_1, .bool a0_2, .int .i64 a0_3, .bool a0_4, .int .i64 a0_5, .int .i64 a0_6, .string a0_7]) (t := 29) qlto ?_; intro gb116 hg w14 hbox hb; have BK116 := Aside0.mk (hbox); have GE116 := Aside0.mk ((qisx : w.heap.size ≤ gb116)); replace HB := Aside0.mk (below_step qpag hb); clear hb hbox hg) | ((with_reducible refine gate_dst (N := 2) rfl ?_); refine box_event qgcr (N := 2) qgcr (cs := #[.int .i64 0, .int .u64 0, .int .u32 0, .int .u64 0, .int .u32 0]) (t := 35) qlto ?_; intro gb117 hg w15 hbox hb; have BK117 := Aside0.mk (hbox); have GE117 := Aside0.mk ((by rw [hg]; exact (below_size qy9d) : w.heap.size ≤ gb117)); have NB116_117 := Aside0.mk ((by rw [hg]; exact Nat.ne_of_lt (blk_lt (g := gb116) q6m3) : gb116 ≠ gb117)); have NB117_116 := Aside0.mk ((by rw [hg]; exact Nat.ne_of_gt (blk_lt (g := gb116) q6m3) : gb117 ≠ gb116)); replace BK116 := Aside0.mk (blk_below (g := gb116) q6m3 hb); replace HB := Aside0.mk (below_step qy9d hb); clear hb hbox hg; have hnb16 := NB116_117.out; have hnc16 := NB117_116.out; obtain ⟨hcz17_0, hcz17_1, hcz17_2, hcz17_3, hcz17_4, hcz17_5, hcz17_6, hcz17_7⟩ := cells8 BK116.out; obtain ⟨hfz17_0, hfz17_1, hfz17_2, hfz17_3, hfz17_4, hfz17_5, hfz17_6, hfz17_7⟩ := frozen8 BK116.out; obtain ⟨hcz18_0, hcz18_1, hcz18_2, hcz18_3, hcz18_4⟩ := cells5 BK117.out; obtain ⟨hfz18_0, hfz18_1, hfz18_2, hfz18_3, hfz18_4⟩ := frozen5 BK117.out))
  refine bodyPost_ret (results_ct rfl _ _ gb117 35 #[.int .i64 0, .int .u64 0, .int .u32 0, .int .u64 0, .int .u32 0] (0, 0) _ rfl (by (with_reducible repeat (first | refine blk_drewN ?_ _ | refine blk_drew ?_ | refine blk_alloc ?_ _)); exact put5_0_5 qem3) Tryd.underlying35 rfl qg3m) rfl ?_
  exact ⟨qxu5, q7oq⟩

/-! ### strings_Join: function 78, by hand -/
-- IMPORT Derived.Test.YtbkgaplldfilnaaDoorShelf
def joined_ (l : List ByteArray) (s : ByteArray) : List UInt8 := Go.Lib.join (l.map (·.data.toList)) s.data.toList
def strings_Join.f (l0 : List ByteArray) (a1 : ByteArray) : Option (ByteArray) :=
 if l0.length ≤ 140737488355328 then (if (joined_ l0 a1).length ≤ 140737488355328 then some ⟨(joined_ l0 a1).toArray⟩ else none) else none
theorem spot_none_ {w : World} {a : Addr} {v : Value} (h : w.cell? a = some v) : a.spot = none := by
 unfold World.cell? at h
 split at h
 ·split at h
  ·cases h
  ·rename_i _ h2
   cases hs : a.spot with
   | none => rfl
   | some x => rw [hs] at h2; exact absurd rfl h2
 ·cases h
theorem lt_heap_ {w : World} {a : Addr} {v : Value} (h : w.cell? a = some v) : a.block < w.heap.size := by
 unfold World.cell? at h
 split at h
 ·rename_i h1
  exact (Array.getElem?_eq_some_iff.1 h1).1
 ·cases h
theorem strings_Join.calls (A0 : Option Addr) (c0 : Nat) (l0 : List ByteArray) (a1 : ByteArray) (r : ByteArray) (w : World) (hr0 : Kd.C Kd.string w A0 l0.length l0) (hc0 : l0.length ≤ c0) (h : strings_Join.f l0 a1 = some r) :
  Calls Tryd.prog 78 #[.slice A0 l0.length c0, .string a1] w fun e w' => e = .returned (.string r) ∧ Below w.heap.size w w' := by
 unfold strings_Join.f at h
 by_cases h1 : l0.length ≤ 140737488355328
 ·rw [if_pos h1] at h
  by_cases h2 : (joined_ l0 a1).length ≤ 140737488355328
  ·rw [if_pos h2] at h
   cases h
   have hr := Kd.reads_of_C (enc := Value.string) (d := ByteArray.empty) (h1 := fun _ => rfl) hr0
   match l0, hr, hc0, h1, h2 with
   | [], _, _, _, _ => exact (Tryd.strings_Join_none A0 c0 a1 w).mono fun e w' ⟨he, hw⟩ => ⟨he, hw ▸ Below.refl _ _⟩
   | x :: xs, hr, hc0, h1, h2 =>
    have hat := fun (j : Nat) (hj : j < (x :: xs).length) => hr.at_ (j : Int) (Int.natCast_nonneg j) (Int.ofNat_lt.2 hj)
    obtain ⟨ad, rfl, hc⟩ := hat 0 (Nat.zero_lt_succ _)
    have hsp : ad.spot = none := by
     have := spot_none_ hc
     simpa [Addr.add] using this
    have hlt : ad.block < w.heap.size := by
     have := lt_heap_ hc
     simpa [Addr.add] using this
    obtain ⟨bk, o, sp⟩ := ad
    simp only at hsp hlt
    subst hsp
    refine Tryd.strings_Join bk o c0 (x :: xs) a1 w (fun j y hy => ?_) hlt h1 hc0 h2
    have hj := (List.getElem?_eq_some_iff.1 hy).1
    obtain ⟨ad, he, hcell⟩ := hat j hj
    cases he
    have e : (rdOf ByteArray.empty (x :: xs) (j : Int)) = y := by
     simp only [rdOf, Int.toNat_natCast, List.getD_eq_getElem?_getD, hy, Option.getD_some]
    rw [e, Int.toNat_natCast] at hcell
    cases j with
    | zero => simpa [Addr.add] using hcell
    | succ j => simpa [Addr.add] using hcell
  ·rw [if_neg h2] at h
   cases h
 ·rw [if_neg h1] at h
  cases h

end Go.Proofs.YtbkgaplldfilnaaDoor.P
