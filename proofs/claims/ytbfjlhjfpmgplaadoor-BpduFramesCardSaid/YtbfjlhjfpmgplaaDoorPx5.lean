-- slim
-- Written by wip/hprint.py (this session's program) through the kit's print program; hand contracts are marked 'by hand'.
import Derived.Test.YtbfjlhjfpmgplaaDoorAbb
import Derived.Test.YtbfjlhjfpmgplaaDoorPx0
namespace Go.Proofs.YtbfjlhjfpmgplaaDoor.P
open Go.RowKit Go.Proofs.YtbfjlhjfpmgplaaDoorW.PrintWords Go.Proofs.YtbfjlhjfpmgplaaDoorW.PrintLast Go.Proofs.YtbfjlhjfpmgplaaDoorW.PrintMore
attribute [local go_sem] max2_int min2_int max_two min_two max_three min_three max_four min_four   -- for this text's walks alone
set_option linter.unusedVariables false
set_option linter.unusedSimpArgs false

/-! ### bpdu_flags: function 19, by hand -/
def bpdu_set (is : Bool) (n bit : Int) : Int := if is = true then Go.bits .or .u8 n bit else n
def bpdu_flags.f (a0_0 : Int) (a0_1 a0_2 a0_3 a0_4 a0_5 a0_6 : Bool) (a0_7 a0_8 a0_9 a0_10 a0_11 a0_12 a0_13 a0_14 a0_15 : Int) : Option Int :=
 some (bpdu_set a0_6 (bpdu_set a0_5 (bpdu_set a0_4 (bpdu_set a0_3 (bpdu_set a0_2 (bpdu_set a0_1 ((wrap64 (a0_7 * 4)) % 256) 1) 2) 16) 32) 64) 128)
set_option maxHeartbeats 2000000 in
theorem bpdu_set_calls (ba : Nat) (is : Bool) (n bit : Int) (w : World) (ha : w.heap[ba]? = some (.cells #[.int .u8 n] 5 (0, 0))) :
  Calls Tryd.prog 33 #[.bool is, .int .u8 bit, .pointer (some ⟨ba, 0, none⟩)] w fun e w' => e = .returned (.tuple #[]) ∧ w'.heap[ba]? = some (.cells #[.int .u8 (bpdu_set is n bit)] 5 (0, 0)) ∧ (∀ g, g ≠ ba → g < w.heap.size → w'.heap[g]? = w.heap[g]?) ∧ (∀ B, B ≤ ba → B ≤ w.heap.size → Below B w w') := by
 have c1 := blk_cell ha 0
 have f1 := blk_frozen ha 0
 have HA := Aside0.mk ha
 clear ha
 cases is
 ·go_enter Tryd.func33, Tryd.ntmps33
  go_wp2
  go_end0
  exact ⟨rfl, HA.out, fun g _ _ => rfl, fun B _ _ => Below.refl _ _⟩
 ·go_enter Tryd.func33, Tryd.ntmps33
  go_wp2
  go_end0
  refine ⟨rfl, blk_put HA.out 0 _ rfl, ?_, ?_⟩
  ·intro g hg hlt
   exact Below.heap_setCell w ⟨ba, 0, none⟩ _ g hg
  ·intro B hB hBw
   exact (Below.refl _ _).setCell hB _
def FS (w : World) (b : Array Value) (n : Int) (wc : World) : Prop :=
 wc.heap[w.heap.size]? = some (.cells b 24 (0, 0)) ∧ wc.heap[w.heap.size + 1]? = some (.cells #[.int .u8 n] 5 (0, 0)) ∧ Below w.heap.size w wc
theorem fs_set {w wc : World} {b : Array Value} {n : Int} (is : Bool) (bit : Int) (hp : FS w b n wc) :
  Calls Tryd.prog 33 #[.bool is, .int .u8 bit, .pointer (some ⟨w.heap.size + 1, 0, none⟩)] wc fun e w' => e = .returned (.tuple #[]) ∧ FS w b (bpdu_set is n bit) w' := by
 obtain ⟨h1, h2, h4⟩ := hp
 refine (bpdu_set_calls _ is n bit wc h2).mono ?_
 rintro e w' ⟨rfl, k2, k3, k4⟩
 refine ⟨rfl, ?_, k2, h4.trans (k4 _ qc h4.size)⟩
 rw [k3 _ qc (blk_lt h1)]
 exact h1
theorem fs_start (w : World) (b : Array Value) (n : Int) : FS w b n ((w.alloc (.cells b 24)).alloc (.cells #[.int .u8 n] 5)) := by
 refine ⟨blk_alloc (blk_new w _) _, ?_, below_alloc (below_alloc (Below.refl _ _) _) _⟩
 have e : (w.alloc (.cells b 24)).heap.size = w.heap.size + 1 := Array.size_push _
 rw [← e]
 exact blk_new _ _
set_option maxHeartbeats 4000000 in
set_option maxRecDepth 100000 in
theorem bpdu_flags.calls (a0_0 : Int) (a0_1 a0_2 a0_3 a0_4 a0_5 a0_6 : Bool) (a0_7 a0_8 a0_9 a0_10 a0_11 a0_12 a0_13 a0_14 a0_15 : Int) (r : Int) (w : World) (h : bpdu_flags.f a0_0 a0_1 a0_2 a0_3 a0_4 a0_5 a0_6 a0_7 a0_8 a0_9 a0_10 a0_11 a0_12 a0_13 a0_14 a0_15 = some r) :
  Calls Tryd.prog 19 #[.agg #[.int .i64 a0_0, .bool a0_1, .bool a0_2, .bool a0_3, .bool a0_4, .bool a0_5, .bool a0_6, .int .i64 a0_7, .int .u64 a0_8, .int .i64 a0_9, .int .u64 a0_10, .int .i64 a0_11, .int .i64 a0_12, .int .i64 a0_13, .int .i64 a0_14, .int .i64 a0_15]] w fun e w' => e = .returned (.int .u8 r) ∧ Below w.heap.size w w' := by
 unfold bpdu_flags.f at h
 obtain rfl := Option.some.inj h
 clear h
 have hu := Tryd.underlying24
 have HF0 := Aside0.mk (fs_start w #[.int .i64 a0_0, .bool a0_1, .bool a0_2, .bool a0_3, .bool a0_4, .bool a0_5, .bool a0_6, .int .i64 a0_7, .int .u64 a0_8, .int .i64 a0_9, .int .u64 a0_10, .int .i64 a0_11, .int .i64 a0_12, .int .i64 a0_13, .int .i64 a0_14, .int .i64 a0_15] ((wrap64 (a0_7 * 4)) % 256))
 go_enter Tryd.func19, Tryd.ntmps19
 go_wp2_with (first | (go_at_call 33; (with_reducible refine (fs_set a0_6 128 HF5.out).mono ?_); rintro e6 w6 ⟨rfl, hp⟩; have HF6 := Aside0.mk hp; have c6 := (blk_cell hp.2.1 0); clear hp) | (go_at_call 33; (with_reducible refine (fs_set a0_5 64 HF4.out).mono ?_); rintro e5 w5 ⟨rfl, hp⟩; have HF5 := Aside0.mk hp; have c5 := (blk_cell hp.1 6).trans (show _ = some (Value.bool a0_6) from rfl); clear hp) | (go_at_call 33; (with_reducible refine (fs_set a0_4 32 HF3.out).mono ?_); rintro e4 w4 ⟨rfl, hp⟩; have HF4 := Aside0.mk hp; have c4 := (blk_cell hp.1 5).trans (show _ = some (Value.bool a0_5) from rfl); clear hp) | (go_at_call 33; (with_reducible refine (fs_set a0_3 16 HF2.out).mono ?_); rintro e3 w3 ⟨rfl, hp⟩; have HF3 := Aside0.mk hp; have c3 := (blk_cell hp.1 4).trans (show _ = some (Value.bool a0_4) from rfl); clear hp) | (go_at_call 33; (with_reducible refine (fs_set a0_2 2 HF1.out).mono ?_); rintro e2 w2 ⟨rfl, hp⟩; have HF2 := Aside0.mk hp; have c2 := (blk_cell hp.1 3).trans (show _ = some (Value.bool a0_3) from rfl); clear hp) | (go_at_call 33; (with_reducible refine (fs_set a0_1 1 HF0.out).mono ?_); rintro e1 w1 ⟨rfl, hp⟩; have HF1 := Aside0.mk hp; have c1 := (blk_cell hp.1 2).trans (show _ = some (Value.bool a0_2) from rfl); clear hp))
 go_ret
 exact ⟨rfl, HF6.out.2.2⟩

end Go.Proofs.YtbfjlhjfpmgplaaDoor.P
