-- slim
-- Written by wip/hprint.py (this session's program) through the kit's print program; hand contracts are marked 'by hand'.
import Derived.Test.YtbfjlhjfpmgplaaDoorAbb
import Derived.Test.YtbfjlhjfpmgplaaDoorPx0
import Derived.Test.YtbfjlhjfpmgplaaDoorPx10
namespace Go.Proofs.YtbfjlhjfpmgplaaDoor.P
open Go.RowKit Go.Proofs.YtbfjlhjfpmgplaaDoorW.PrintWords Go.Proofs.YtbfjlhjfpmgplaaDoorW.PrintLast Go.Proofs.YtbfjlhjfpmgplaaDoorW.PrintMore
attribute [local go_sem] max2_int min2_int max_two min_two max_three min_three max_four min_four   -- for this text's walks alone
set_option linter.unusedVariables false
set_option linter.unusedSimpArgs false

/-! ### bpdu_told: function 28, by hand -/
-- CALLS gangway/octets.Get
def bpdu_told.f (k : Nat) (a0 : ByteArray) : Option (Int × Bool × Bool × Bool × Bool × Bool × Bool × Int × Int × Int × Int × Int × Int × Int × Int × Int) :=
 if 7 < (a0.size : Int) then
 (octets_Get.f k a0 8 8).bind fun g1 => (octets_Get.f k a0 16 4).bind fun g2 => (octets_Get.f k a0 20 8).bind fun g3 => (octets_Get.f k a0 28 2).bind fun g4 => (octets_Get.f k a0 30 2).bind fun g5 => (octets_Get.f k a0 32 2).bind fun g6 => (octets_Get.f k a0 34 2).bind fun g7 => (octets_Get.f k a0 36 2).bind fun g8 =>
 some (0, (Go.bits .and .u8 (bt a0 7) 1) != 0, false, false, false, false, (Go.bits .and .u8 (bt a0 7) 128) != 0, 0, g1.1, wrap64 g2.1, g3.1, wrap64 g4.1, wrap64 g5.1, wrap64 g6.1, wrap64 g7.1, wrap64 g8.1)
 else none
set_option maxHeartbeats 2000000 in
theorem told_get_calls (k : Nat) (bs ba : Nat) (s : ByteArray) (i n : Int) (r1 r2 : Int) (w : World) (hne : bs ≠ ba) (hs : w.heap[bs]? = some (.cells #[.string s] 9 (0, 0))) (ha : w.heap[ba]? = some (.cells #[.int .i64 i] 3 (0, 0))) (h : octets_Get.f k s i n = some (r1, r2)) :
  Calls Tryd.prog 36 #[.int .i64 n, .pointer (some ⟨bs, 0, none⟩), .pointer (some ⟨ba, 0, none⟩)] w fun e w' => e = .returned (.int .u64 r1) ∧ w'.heap[bs]? = some (.cells #[.string s] 9 (0, 0)) ∧ w'.heap[ba]? = some (.cells #[.int .i64 (wrap64 (i + n))] 3 (0, 0)) ∧ (∀ g, g ≠ ba → g < w.heap.size → w'.heap[g]? = w.heap[g]?) ∧ (∀ B, B ≤ ba → B ≤ w.heap.size → Below B w w') := by
 have HO := Aside0.mk h
 have c0 := blk_cell hs 0
 have c1 := blk_cell ha 0
 have HS := Aside0.mk hs
 have HA := Aside0.mk ha
 clear hs ha h
 go_enter Tryd.func36, Tryd.ntmps36
 go_wp2_with (go_at_call 37; (with_reducible refine (octets_Get.calls k _ _ _ r1 r2 _ HO.out).mono ?_); rintro e1 w1 ⟨rfl, hb1⟩; have hk := blk_below HA.out hb1; have d1 := blk_cell hk 0; have f1 := blk_frozen hk 0)
 go_ret
 refine ⟨rfl, blk_far (blk_below HS.out hb1) hne _, blk_put hk 0 _ rfl, ?_, ?_⟩
 ·intro g hg hlt
  exact (Below.heap_setCell w1 ⟨ba, 0, none⟩ _ g hg).trans (hb1.block g hlt)
 ·intro B hB hBw
  exact (hb1.mono hBw).setCell hB _
def BS (w : World) (s : ByteArray) (cs : Array Value) (i : Int) (wc : World) : Prop :=
 wc.heap[w.heap.size]? = some (.cells #[.string s] 9 (0, 0)) ∧ wc.heap[w.heap.size + 1]? = some (.cells #[.int .i64 0, .bool false, .bool false, .bool false, .bool false, .bool false, .bool false, .int .i64 0, .int .u64 0, .int .i64 0, .int .u64 0, .int .i64 0, .int .i64 0, .int .i64 0, .int .i64 0, .int .i64 0] 24 (0, 0)) ∧ wc.heap[w.heap.size + 1 + 1]? = some (.cells #[.int .i64 i] 3 (0, 0)) ∧ wc.heap[w.heap.size + 1 + 1 + 1]? = some (.cells cs 24 (0, 0)) ∧ Below w.heap.size w wc
theorem bs_get {k : Nat} {w wc : World} {s : ByteArray} {cs : Array Value} {i n j : Int} {r1 r2 : Int} (hp : BS w s cs i wc) (h : octets_Get.f k s i n = some (r1, r2)) (hj : i + n = j ∧ 0 ≤ j ∧ j < 100) :
  Calls Tryd.prog 36 #[.int .i64 n, .pointer (some ⟨w.heap.size, 0, none⟩), .pointer (some ⟨w.heap.size + 1 + 1, 0, none⟩)] wc fun e w' => e = .returned (.int .u64 r1) ∧ BS w s cs j w' ∧ ∀ g, g ≠ w.heap.size + 1 + 1 → g < wc.heap.size → w'.heap[g]? = wc.heap[g]? := by
 obtain ⟨h1, h2, h3, h5, h4⟩ := hp
 refine (told_get_calls k _ _ s i n r1 r2 wc qc h1 h3 h).mono ?_
 rintro e w' ⟨rfl, k1, k2, k3, k4⟩
 rw [show wrap64 (i + n) = j by unfold wrap64; omega] at k2
 have hb := k4 _ qc h4.size
 refine ⟨rfl, ⟨k1, ?_, k2, ?_, h4.trans hb⟩, k3⟩
 ·rw [k3 _ qc (blk_lt h2)]
  exact h2
 ·rw [k3 _ qc (blk_lt h5)]
  exact h5
theorem bs_put {w wc : World} {s : ByteArray} {cs cs' : Array Value} {i : Int} (hp : BS w s cs i wc) (j : Nat) (v : Value) (hj : cs.setIfInBounds j v = cs') : BS w s cs' i (wc.setCell ⟨w.heap.size + 1 + 1 + 1, j, none⟩ v) := by
 obtain ⟨h1, h2, h3, h5, h4⟩ := hp
 exact ⟨blk_far h1 (show w.heap.size ≠ w.heap.size + 1 + 1 + 1 by omega) _, blk_far h2 (show w.heap.size + 1 ≠ w.heap.size + 1 + 1 + 1 by omega) _, blk_far h3 (show w.heap.size + 1 + 1 ≠ w.heap.size + 1 + 1 + 1 by omega) _, blk_put h5 j v hj, below_set h4 qc⟩
theorem bs_start (w : World) (s : ByteArray) (cs : Array Value) : BS w s cs 8 ((((w.alloc (.cells #[.string s] 9)).alloc (.cells #[.int .i64 0, .bool false, .bool false, .bool false, .bool false, .bool false, .bool false, .int .i64 0, .int .u64 0, .int .i64 0, .int .u64 0, .int .i64 0, .int .i64 0, .int .i64 0, .int .i64 0, .int .i64 0] 24)).alloc (.cells #[.int .i64 8] 3)).alloc (.cells cs 24)) := by
 have q1 : ∀ A : Obj, (w.alloc A).heap.size = w.heap.size + 1 := fun A => Array.size_push _
 have q2 : ∀ A B : Obj, ((w.alloc A).alloc B).heap.size = w.heap.size + 1 + 1 := fun A B => (Array.size_push _).trans (by rw [q1])
 have q3 : ∀ A B C : Obj, (((w.alloc A).alloc B).alloc C).heap.size = w.heap.size + 1 + 1 + 1 := fun A B C => (Array.size_push _).trans (by rw [q2])
 refine ⟨blk_alloc (blk_alloc (blk_alloc (blk_new w _) _) _) _, blk_alloc (blk_alloc ?_ _) _, blk_alloc ?_ _, ?_, ?_⟩
 ·rw [← q1]
  exact blk_new _ _
 ·rw [← q2]
  exact blk_new _ _
 ·rw [← q3]
  exact blk_new _ _
 ·repeat (first | exact Below.refl _ _ | apply below_alloc)
theorem bs_alloc {w wc : World} {s : ByteArray} {cs : Array Value} {i : Int} (hp : BS w s cs i wc) (o : Obj) : BS w s cs i (wc.alloc o) :=
 ⟨blk_alloc hp.1 _, blk_alloc hp.2.1 _, blk_alloc hp.2.2.1 _, blk_alloc hp.2.2.2.1 _, below_alloc hp.2.2.2.2 _⟩
def BT (w : World) (s : ByteArray) (cs : Array Value) (i : Int) (g : Nat) (ps : Array Value) (wc : World) : Prop :=
 BS w s cs i wc ∧ wc.heap[g]? = some (.cells ps 64 (0, 0)) ∧ w.heap.size + 1 + 1 + 1 < g
theorem bt_start {w wc : World} {s : ByteArray} {cs cs' : Array Value} {i : Int} (hp : BS w s cs i wc) (j : Nat) (v : Value) (ps : Array Value) (hj : cs.setIfInBounds j v = cs') : BT w s cs' i wc.heap.size ps ((wc.setCell ⟨w.heap.size + 1 + 1 + 1, j, none⟩ v).alloc (.cells ps 64)) := by
 refine ⟨bs_alloc (bs_put hp j v hj) _, ?_, blk_lt hp.2.2.2.1⟩
 have e : (wc.setCell ⟨w.heap.size + 1 + 1 + 1, j, none⟩ v).heap.size = wc.heap.size := by simp [World.setCell]
 have := blk_new (wc.setCell ⟨w.heap.size + 1 + 1 + 1, j, none⟩ v) (.cells ps 64)
 rw [e] at this
 exact this
theorem bt_get {k : Nat} {w wc : World} {s : ByteArray} {cs : Array Value} {i n j : Int} {r1 r2 : Int} {g : Nat} {ps : Array Value} (hp : BT w s cs i g ps wc) (h : octets_Get.f k s i n = some (r1, r2)) (hj : i + n = j ∧ 0 ≤ j ∧ j < 100) :
  Calls Tryd.prog 36 #[.int .i64 n, .pointer (some ⟨w.heap.size, 0, none⟩), .pointer (some ⟨w.heap.size + 1 + 1, 0, none⟩)] wc fun e w' => e = .returned (.int .u64 r1) ∧ BT w s cs j g ps w' := by
 refine (bs_get hp.1 h hj).mono ?_
 rintro e w' ⟨rfl, h1, h2⟩
 have hg := hp.2.2
 exact ⟨rfl, h1, (h2 g qc (blk_lt hp.2.1)).trans hp.2.1, hg⟩
theorem bt_put {w wc : World} {s : ByteArray} {cs cs' : Array Value} {i : Int} {g : Nat} {ps : Array Value} (hp : BT w s cs i g ps wc) (j : Nat) (v : Value) (hj : cs.setIfInBounds j v = cs') : BT w s cs' i g ps (wc.setCell ⟨w.heap.size + 1 + 1 + 1, j, none⟩ v) :=
 ⟨bs_put hp.1 j v hj, blk_far hp.2.1 (show g ≠ w.heap.size + 1 + 1 + 1 by have := hp.2.2; omega) _, hp.2.2⟩
theorem bpdu_told.mono : ∀ a0 k, LeO (bpdu_told.f k a0) (bpdu_told.f (k + 1) a0) := by
 intro a0 k
 unfold bpdu_told.f
 refine LeO.ite ?_ (fun r h => h)
 refine LeO.bind (octets_Get.mono _ _ _ _) (fun g1 => ?_)
 refine LeO.bind (octets_Get.mono _ _ _ _) (fun g2 => ?_)
 refine LeO.bind (octets_Get.mono _ _ _ _) (fun g3 => ?_)
 refine LeO.bind (octets_Get.mono _ _ _ _) (fun g4 => ?_)
 refine LeO.bind (octets_Get.mono _ _ _ _) (fun g5 => ?_)
 refine LeO.bind (octets_Get.mono _ _ _ _) (fun g6 => ?_)
 refine LeO.bind (octets_Get.mono _ _ _ _) (fun g7 => ?_)
 refine LeO.bind (octets_Get.mono _ _ _ _) (fun g8 => ?_)
 exact fun r h => h
set_option maxHeartbeats 40000000 in
set_option maxRecDepth 100000 in
theorem bpdu_told.calls (k : Nat) (a0 : ByteArray) (r_0 : Int) (r_1 r_2 r_3 r_4 r_5 r_6 : Bool) (r_7 r_8 r_9 r_10 r_11 r_12 r_13 r_14 r_15 : Int) (w : World) (h : bpdu_told.f k a0 = some (r_0, r_1, r_2, r_3, r_4, r_5, r_6, r_7, r_8, r_9, r_10, r_11, r_12, r_13, r_14, r_15)) :
  Calls Tryd.prog 28 #[.string a0] w fun e w' => e = .returned (.agg #[.int .i64 r_0, .bool r_1, .bool r_2, .bool r_3, .bool r_4, .bool r_5, .bool r_6, .int .i64 r_7, .int .u64 r_8, .int .i64 r_9, .int .u64 r_10, .int .i64 r_11, .int .i64 r_12, .int .i64 r_13, .int .i64 r_14, .int .i64 r_15]) ∧ Below w.heap.size w w' := by
 unfold bpdu_told.f at h
 have hu25 := Tryd.underlying24
 by_cases h0 : 7 < (a0.size : Int)
 ·rw [if_pos h0] at h
  obtain ⟨⟨t1, e1⟩, q1, h⟩ := Option.bind_eq_some_iff.mp h
  obtain ⟨⟨t2, e2⟩, q2, h⟩ := Option.bind_eq_some_iff.mp h
  obtain ⟨⟨t3, e3⟩, q3, h⟩ := Option.bind_eq_some_iff.mp h
  obtain ⟨⟨t4, e4⟩, q4, h⟩ := Option.bind_eq_some_iff.mp h
  obtain ⟨⟨t5, e5⟩, q5, h⟩ := Option.bind_eq_some_iff.mp h
  obtain ⟨⟨t6, e6⟩, q6, h⟩ := Option.bind_eq_some_iff.mp h
  obtain ⟨⟨t7, e7⟩, q7, h⟩ := Option.bind_eq_some_iff.mp h
  obtain ⟨⟨t8, e8⟩, q8, h⟩ := Option.bind_eq_some_iff.mp h
  have Q1 := Aside0.mk q1; have Q2 := Aside0.mk q2; have Q3 := Aside0.mk q3; have Q4 := Aside0.mk q4; have Q5 := Aside0.mk q5; have Q6 := Aside0.mk q6; have Q7 := Aside0.mk q7; have Q8 := Aside0.mk q8
  clear q1 q2 q3 q4 q5 q6 q7 q8
  dsimp only at h
  simp only [Option.some.injEq, Prod.mk.injEq] at h
  obtain ⟨rfl, rfl, rfl, rfl, rfl, rfl, rfl, rfl, rfl, rfl, rfl, rfl, rfl, rfl, rfl, rfl⟩ := h
  have b0 : decide (7 < a0.size) = true := decide_eq_true qc
  have b1 : decide ((7 : Int) < (a0.size : Int)) = true := decide_eq_true h0
  go_enter Tryd.func28, Tryd.ntmps28
  go_wp2_with (first | (go_at_call 36; (with_reducible refine (bs_get (bs_put (cs' := #[.int .i64 0, .bool _, .bool false, .bool false, .bool false, .bool false, .bool _, .int .i64 0, .int .u64 t1, .int .i64 (wrap64 t2), .int .u64 t3, .int .i64 0, .int .i64 0, .int .i64 0, .int .i64 0, .int .i64 0]) HP3.out 10 _ rfl) Q4.out (j := 30) qd).mono ?_); rintro e4 w4 ⟨rfl, hp, hk⟩; have HP4 := Aside0.mk hp; have HK4 := Aside0.mk hk; have c4 := (blk_cell hp.2.2.2.1 11).trans (show _ = some (Value.int .i64 0) from rfl); have f4 := blk_frozen hp.2.2.2.1 11; clear hp hk) | (go_at_call 36; (with_reducible refine (bs_get (bs_put (cs' := #[.int .i64 0, .bool _, .bool false, .bool false, .bool false, .bool false, .bool _, .int .i64 0, .int .u64 t1, .int .i64 (wrap64 t2), .int .u64 0, .int .i64 0, .int .i64 0, .int .i64 0, .int .i64 0, .int .i64 0]) HP2.out 9 _ rfl) Q3.out (j := 28) qd).mono ?_); rintro e3 w3 ⟨rfl, hp, hk⟩; have HP3 := Aside0.mk hp; have HK3 := Aside0.mk hk; have c3 := (blk_cell hp.2.2.2.1 10).trans (show _ = some (Value.int .u64 0) from rfl); have f3 := blk_frozen hp.2.2.2.1 10; clear hp hk) | (go_at_call 36; (with_reducible refine (bs_get (bs_put (cs' := #[.int .i64 0, .bool _, .bool false, .bool false, .bool false, .bool false, .bool _, .int .i64 0, .int .u64 t1, .int .i64 0, .int .u64 0, .int .i64 0, .int .i64 0, .int .i64 0, .int .i64 0, .int .i64 0]) HP1.out 8 _ rfl) Q2.out (j := 20) qd).mono ?_); rintro e2 w2 ⟨rfl, hp, hk⟩; have HP2 := Aside0.mk hp; have HK2 := Aside0.mk hk; have c2 := (blk_cell hp.2.2.2.1 9).trans (show _ = some (Value.int .i64 0) from rfl); have f2 := blk_frozen hp.2.2.2.1 9; clear hp hk) | (go_at_call 36; (with_reducible refine (bs_get (bs_start w a0 _) Q1.out (j := 16) qd).mono ?_); rintro e1 w1 ⟨rfl, hp, hk⟩; have HP1 := Aside0.mk hp; have HK1 := Aside0.mk hk; have c1 := (blk_cell hp.2.2.2.1 8).trans (show _ = some (Value.int .u64 0) from rfl); have f1 := blk_frozen hp.2.2.2.1 8; clear hp hk))
  have HL0 := Aside0.mk (bt_start (cs' := #[.int .i64 0, .bool _, .bool false, .bool false, .bool false, .bool false, .bool _, .int .i64 0, .int .u64 t1, .int .i64 (wrap64 t2), .int .u64 t3, .int .i64 (wrap64 t4), .int .i64 0, .int .i64 0, .int .i64 0, .int .i64 0]) HP4.out 11 (.int .i64 (wrap64 t4)) #[.pointer (some ⟨w.heap.size + 1 + 1 + 1, 12, none⟩), .pointer (some ⟨w.heap.size + 1 + 1 + 1, 13, none⟩), .pointer (some ⟨w.heap.size + 1 + 1 + 1, 14, none⟩), .pointer (some ⟨w.heap.size + 1 + 1 + 1, 15, none⟩)] rfl)
  refine wp_loop_rounds 5 ?_
  generalize World.alloc (World.setCell w4 _ _) _ = W0 at HL0 ⊢
  rw [rounds_succ]
  have cp0 := (blk_cell HL0.out.2.1 0).trans (show _ = some (Value.pointer (some ⟨w.heap.size + 1 + 1 + 1, 12, none⟩)) from rfl)
  go_wp2_with (go_at_call 36; (with_reducible refine (bt_get HL0.out Q5.out (j := 32) qd).mono ?_); rintro e5 w5 ⟨rfl, hp⟩; have HP5 := Aside0.mk hp; have c5 := (blk_cell hp.1.2.2.2.1 12).trans (show _ = some (Value.int .i64 0) from rfl); have f5 := blk_frozen hp.1.2.2.2.1 12; clear hp)
  have HL1 := Aside0.mk (bt_put (cs' := #[.int .i64 0, .bool _, .bool false, .bool false, .bool false, .bool false, .bool _, .int .i64 0, .int .u64 t1, .int .i64 (wrap64 t2), .int .u64 t3, .int .i64 (wrap64 t4), .int .i64 (wrap64 t5), .int .i64 0, .int .i64 0, .int .i64 0]) HP5.out 12 (.int .i64 (wrap64 t5)) rfl)
  clear cp0 c5 f5 HP5 HL0
  generalize World.setCell w5 _ _ = W1 at HL1 ⊢
  rw [rounds_succ]
  have cp1 := (blk_cell HL1.out.2.1 1).trans (show _ = some (Value.pointer (some ⟨w.heap.size + 1 + 1 + 1, 13, none⟩)) from rfl)
  go_wp2_with (go_at_call 36; (with_reducible refine (bt_get HL1.out Q6.out (j := 34) qd).mono ?_); rintro e6 w6 ⟨rfl, hp⟩; have HP6 := Aside0.mk hp; have c6 := (blk_cell hp.1.2.2.2.1 13).trans (show _ = some (Value.int .i64 0) from rfl); have f6 := blk_frozen hp.1.2.2.2.1 13; clear hp)
  have HL2 := Aside0.mk (bt_put (cs' := #[.int .i64 0, .bool _, .bool false, .bool false, .bool false, .bool false, .bool _, .int .i64 0, .int .u64 t1, .int .i64 (wrap64 t2), .int .u64 t3, .int .i64 (wrap64 t4), .int .i64 (wrap64 t5), .int .i64 (wrap64 t6), .int .i64 0, .int .i64 0]) HP6.out 13 (.int .i64 (wrap64 t6)) rfl)
  clear cp1 c6 f6 HP6 HL1
  generalize World.setCell w6 _ _ = W2 at HL2 ⊢
  rw [rounds_succ]
  have cp2 := (blk_cell HL2.out.2.1 2).trans (show _ = some (Value.pointer (some ⟨w.heap.size + 1 + 1 + 1, 14, none⟩)) from rfl)
  go_wp2_with (go_at_call 36; (with_reducible refine (bt_get HL2.out Q7.out (j := 36) qd).mono ?_); rintro e7 w7 ⟨rfl, hp⟩; have HP7 := Aside0.mk hp; have c7 := (blk_cell hp.1.2.2.2.1 14).trans (show _ = some (Value.int .i64 0) from rfl); have f7 := blk_frozen hp.1.2.2.2.1 14; clear hp)
  have HL3 := Aside0.mk (bt_put (cs' := #[.int .i64 0, .bool _, .bool false, .bool false, .bool false, .bool false, .bool _, .int .i64 0, .int .u64 t1, .int .i64 (wrap64 t2), .int .u64 t3, .int .i64 (wrap64 t4), .int .i64 (wrap64 t5), .int .i64 (wrap64 t6), .int .i64 (wrap64 t7), .int .i64 0]) HP7.out 14 (.int .i64 (wrap64 t7)) rfl)
  clear cp2 c7 f7 HP7 HL2
  generalize World.setCell w7 _ _ = W3 at HL3 ⊢
  rw [rounds_succ]
  have cp3 := (blk_cell HL3.out.2.1 3).trans (show _ = some (Value.pointer (some ⟨w.heap.size + 1 + 1 + 1, 15, none⟩)) from rfl)
  go_wp2_with (go_at_call 36; (with_reducible refine (bt_get HL3.out Q8.out (j := 38) qd).mono ?_); rintro e8 w8 ⟨rfl, hp⟩; have HP8 := Aside0.mk hp; have c8 := (blk_cell hp.1.2.2.2.1 15).trans (show _ = some (Value.int .i64 0) from rfl); have f8 := blk_frozen hp.1.2.2.2.1 15; clear hp)
  have HL4 := Aside0.mk (bt_put (cs' := #[.int .i64 0, .bool _, .bool false, .bool false, .bool false, .bool false, .bool _, .int .i64 0, .int .u64 t1, .int .i64 (wrap64 t2), .int .u64 t3, .int .i64 (wrap64 t4), .int .i64 (wrap64 t5), .int .i64 (wrap64 t6), .int .i64 (wrap64 t7), .int .i64 (wrap64 t8)]) HP8.out 15 (.int .i64 (wrap64 t8)) rfl)
  clear cp3 c8 f8 HP8 HL3
  generalize World.setCell w8 _ _ = W4 at HL4 ⊢
  have hbt : (((a0[7]'(by omega : 7 < a0.size)).toNat : Nat) : Int) = bt a0 7 := bt_at a0 7 (by show 7 < a0.size; omega)
  rw [hbt] at HL4
  have HB4 := HL4.out.1.2.2.2.1
  have HR4 := Aside0.mk HL4.out.1.2.1
  have HW4 := Aside0.mk HL4.out.1.2.2.2.2
  have d0 := (blk_cell HB4 0).trans (show _ = some (Value.int .i64 0) from rfl)
  have g0 := (blk_cell HR4.out 0).trans (show _ = some (Value.int .i64 0) from rfl)
  have z0 := blk_frozen HR4.out 0
  have d1 := (blk_cell HB4 1).trans (show _ = some (Value.bool ((Go.bits .and .u8 (bt a0 7) 1) != 0)) from rfl)
  have g1 := (blk_cell HR4.out 1).trans (show _ = some (Value.bool false) from rfl)
  have z1 := blk_frozen HR4.out 1
  have d2 := (blk_cell HB4 2).trans (show _ = some (Value.bool false) from rfl)
  have g2 := (blk_cell HR4.out 2).trans (show _ = some (Value.bool false) from rfl)
  have z2 := blk_frozen HR4.out 2
  have d3 := (blk_cell HB4 3).trans (show _ = some (Value.bool false) from rfl)
  have g3 := (blk_cell HR4.out 3).trans (show _ = some (Value.bool false) from rfl)
  have z3 := blk_frozen HR4.out 3
  have d4 := (blk_cell HB4 4).trans (show _ = some (Value.bool false) from rfl)
  have g4 := (blk_cell HR4.out 4).trans (show _ = some (Value.bool false) from rfl)
  have z4 := blk_frozen HR4.out 4
  have d5 := (blk_cell HB4 5).trans (show _ = some (Value.bool false) from rfl)
  have g5 := (blk_cell HR4.out 5).trans (show _ = some (Value.bool false) from rfl)
  have z5 := blk_frozen HR4.out 5
  have d6 := (blk_cell HB4 6).trans (show _ = some (Value.bool ((Go.bits .and .u8 (bt a0 7) 128) != 0)) from rfl)
  have g6 := (blk_cell HR4.out 6).trans (show _ = some (Value.bool false) from rfl)
  have z6 := blk_frozen HR4.out 6
  have d7 := (blk_cell HB4 7).trans (show _ = some (Value.int .i64 0) from rfl)
  have g7 := (blk_cell HR4.out 7).trans (show _ = some (Value.int .i64 0) from rfl)
  have z7 := blk_frozen HR4.out 7
  have d8 := (blk_cell HB4 8).trans (show _ = some (Value.int .u64 t1) from rfl)
  have g8 := (blk_cell HR4.out 8).trans (show _ = some (Value.int .u64 0) from rfl)
  have z8 := blk_frozen HR4.out 8
  have d9 := (blk_cell HB4 9).trans (show _ = some (Value.int .i64 (wrap64 t2)) from rfl)
  have g9 := (blk_cell HR4.out 9).trans (show _ = some (Value.int .i64 0) from rfl)
  have z9 := blk_frozen HR4.out 9
  have d10 := (blk_cell HB4 10).trans (show _ = some (Value.int .u64 t3) from rfl)
  have g10 := (blk_cell HR4.out 10).trans (show _ = some (Value.int .u64 0) from rfl)
  have z10 := blk_frozen HR4.out 10
  have d11 := (blk_cell HB4 11).trans (show _ = some (Value.int .i64 (wrap64 t4)) from rfl)
  have g11 := (blk_cell HR4.out 11).trans (show _ = some (Value.int .i64 0) from rfl)
  have z11 := blk_frozen HR4.out 11
  have d12 := (blk_cell HB4 12).trans (show _ = some (Value.int .i64 (wrap64 t5)) from rfl)
  have g12 := (blk_cell HR4.out 12).trans (show _ = some (Value.int .i64 0) from rfl)
  have z12 := blk_frozen HR4.out 12
  have d13 := (blk_cell HB4 13).trans (show _ = some (Value.int .i64 (wrap64 t6)) from rfl)
  have g13 := (blk_cell HR4.out 13).trans (show _ = some (Value.int .i64 0) from rfl)
  have z13 := blk_frozen HR4.out 13
  have d14 := (blk_cell HB4 14).trans (show _ = some (Value.int .i64 (wrap64 t7)) from rfl)
  have g14 := (blk_cell HR4.out 14).trans (show _ = some (Value.int .i64 0) from rfl)
  have z14 := blk_frozen HR4.out 14
  have d15 := (blk_cell HB4 15).trans (show _ = some (Value.int .i64 (wrap64 t8)) from rfl)
  have g15 := (blk_cell HR4.out 15).trans (show _ = some (Value.int .i64 0) from rfl)
  have z15 := blk_frozen HR4.out 15
  clear HB4 HL4
  rw [rounds_succ]
  go_wp2
  refine bodyPost_ret (results_cell_row rfl _ _ (w.heap.size + 1) 24 #[.int .i64 0, .bool ((Go.bits .and .u8 (bt a0 7) 1) != 0), .bool false, .bool false, .bool false, .bool false, .bool ((Go.bits .and .u8 (bt a0 7) 128) != 0), .int .i64 0, .int .u64 t1, .int .i64 (wrap64 t2), .int .u64 t3, .int .i64 (wrap64 t4), .int .i64 (wrap64 t5), .int .i64 (wrap64 t6), .int .i64 (wrap64 t7), .int .i64 (wrap64 t8)] (0, 0) _ rfl (by refine blk_put (cs := #[.int .i64 0, .bool ((Go.bits .and .u8 (bt a0 7) 1) != 0), .bool false, .bool false, .bool false, .bool false, .bool ((Go.bits .and .u8 (bt a0 7) 128) != 0), .int .i64 0, .int .u64 t1, .int .i64 (wrap64 t2), .int .u64 t3, .int .i64 (wrap64 t4), .int .i64 (wrap64 t5), .int .i64 (wrap64 t6), .int .i64 (wrap64 t7), .int .i64 0]) ?_ 15 _ rfl; refine blk_put (cs := #[.int .i64 0, .bool ((Go.bits .and .u8 (bt a0 7) 1) != 0), .bool false, .bool false, .bool false, .bool false, .bool ((Go.bits .and .u8 (bt a0 7) 128) != 0), .int .i64 0, .int .u64 t1, .int .i64 (wrap64 t2), .int .u64 t3, .int .i64 (wrap64 t4), .int .i64 (wrap64 t5), .int .i64 (wrap64 t6), .int .i64 0, .int .i64 0]) ?_ 14 _ rfl; refine blk_put (cs := #[.int .i64 0, .bool ((Go.bits .and .u8 (bt a0 7) 1) != 0), .bool false, .bool false, .bool false, .bool false, .bool ((Go.bits .and .u8 (bt a0 7) 128) != 0), .int .i64 0, .int .u64 t1, .int .i64 (wrap64 t2), .int .u64 t3, .int .i64 (wrap64 t4), .int .i64 (wrap64 t5), .int .i64 0, .int .i64 0, .int .i64 0]) ?_ 13 _ rfl; refine blk_put (cs := #[.int .i64 0, .bool ((Go.bits .and .u8 (bt a0 7) 1) != 0), .bool false, .bool false, .bool false, .bool false, .bool ((Go.bits .and .u8 (bt a0 7) 128) != 0), .int .i64 0, .int .u64 t1, .int .i64 (wrap64 t2), .int .u64 t3, .int .i64 (wrap64 t4), .int .i64 0, .int .i64 0, .int .i64 0, .int .i64 0]) ?_ 12 _ rfl; refine blk_put (cs := #[.int .i64 0, .bool ((Go.bits .and .u8 (bt a0 7) 1) != 0), .bool false, .bool false, .bool false, .bool false, .bool ((Go.bits .and .u8 (bt a0 7) 128) != 0), .int .i64 0, .int .u64 t1, .int .i64 (wrap64 t2), .int .u64 t3, .int .i64 0, .int .i64 0, .int .i64 0, .int .i64 0, .int .i64 0]) ?_ 11 _ rfl; refine blk_put (cs := #[.int .i64 0, .bool ((Go.bits .and .u8 (bt a0 7) 1) != 0), .bool false, .bool false, .bool false, .bool false, .bool ((Go.bits .and .u8 (bt a0 7) 128) != 0), .int .i64 0, .int .u64 t1, .int .i64 (wrap64 t2), .int .u64 0, .int .i64 0, .int .i64 0, .int .i64 0, .int .i64 0, .int .i64 0]) ?_ 10 _ rfl; refine blk_put (cs := #[.int .i64 0, .bool ((Go.bits .and .u8 (bt a0 7) 1) != 0), .bool false, .bool false, .bool false, .bool false, .bool ((Go.bits .and .u8 (bt a0 7) 128) != 0), .int .i64 0, .int .u64 t1, .int .i64 0, .int .u64 0, .int .i64 0, .int .i64 0, .int .i64 0, .int .i64 0, .int .i64 0]) ?_ 9 _ rfl; refine blk_put (cs := #[.int .i64 0, .bool ((Go.bits .and .u8 (bt a0 7) 1) != 0), .bool false, .bool false, .bool false, .bool false, .bool ((Go.bits .and .u8 (bt a0 7) 128) != 0), .int .i64 0, .int .u64 0, .int .i64 0, .int .u64 0, .int .i64 0, .int .i64 0, .int .i64 0, .int .i64 0, .int .i64 0]) ?_ 8 _ rfl; refine blk_put (cs := #[.int .i64 0, .bool ((Go.bits .and .u8 (bt a0 7) 1) != 0), .bool false, .bool false, .bool false, .bool false, .bool ((Go.bits .and .u8 (bt a0 7) 128) != 0), .int .i64 0, .int .u64 0, .int .i64 0, .int .u64 0, .int .i64 0, .int .i64 0, .int .i64 0, .int .i64 0, .int .i64 0]) ?_ 7 _ rfl; refine blk_put (cs := #[.int .i64 0, .bool ((Go.bits .and .u8 (bt a0 7) 1) != 0), .bool false, .bool false, .bool false, .bool false, .bool false, .int .i64 0, .int .u64 0, .int .i64 0, .int .u64 0, .int .i64 0, .int .i64 0, .int .i64 0, .int .i64 0, .int .i64 0]) ?_ 6 _ rfl; refine blk_put (cs := #[.int .i64 0, .bool ((Go.bits .and .u8 (bt a0 7) 1) != 0), .bool false, .bool false, .bool false, .bool false, .bool false, .int .i64 0, .int .u64 0, .int .i64 0, .int .u64 0, .int .i64 0, .int .i64 0, .int .i64 0, .int .i64 0, .int .i64 0]) ?_ 5 _ rfl; refine blk_put (cs := #[.int .i64 0, .bool ((Go.bits .and .u8 (bt a0 7) 1) != 0), .bool false, .bool false, .bool false, .bool false, .bool false, .int .i64 0, .int .u64 0, .int .i64 0, .int .u64 0, .int .i64 0, .int .i64 0, .int .i64 0, .int .i64 0, .int .i64 0]) ?_ 4 _ rfl; refine blk_put (cs := #[.int .i64 0, .bool ((Go.bits .and .u8 (bt a0 7) 1) != 0), .bool false, .bool false, .bool false, .bool false, .bool false, .int .i64 0, .int .u64 0, .int .i64 0, .int .u64 0, .int .i64 0, .int .i64 0, .int .i64 0, .int .i64 0, .int .i64 0]) ?_ 3 _ rfl; refine blk_put (cs := #[.int .i64 0, .bool ((Go.bits .and .u8 (bt a0 7) 1) != 0), .bool false, .bool false, .bool false, .bool false, .bool false, .int .i64 0, .int .u64 0, .int .i64 0, .int .u64 0, .int .i64 0, .int .i64 0, .int .i64 0, .int .i64 0, .int .i64 0]) ?_ 2 _ rfl; refine blk_put (cs := #[.int .i64 0, .bool false, .bool false, .bool false, .bool false, .bool false, .bool false, .int .i64 0, .int .u64 0, .int .i64 0, .int .u64 0, .int .i64 0, .int .i64 0, .int .i64 0, .int .i64 0, .int .i64 0]) ?_ 1 _ rfl; refine blk_put (cs := #[.int .i64 0, .bool false, .bool false, .bool false, .bool false, .bool false, .bool false, .int .i64 0, .int .u64 0, .int .i64 0, .int .u64 0, .int .i64 0, .int .i64 0, .int .i64 0, .int .i64 0, .int .i64 0]) ?_ 0 _ rfl; exact HR4.out) hu25 rfl qf) rfl ⟨rfl, ?_⟩
  repeat (with_reducible refine below_set ?_ (Nat.le_succ _))
  exact HW4.out
 ·rw [if_neg h0] at h
  exact absurd h qb

end Go.Proofs.YtbfjlhjfpmgplaaDoor.P
