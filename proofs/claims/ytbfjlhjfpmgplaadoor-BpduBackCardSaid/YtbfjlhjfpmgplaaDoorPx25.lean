-- squeezed
-- Written by wip/hprint.py (this session's program) through the kit's print program; hand contracts are marked 'by hand'.
import Derived.Test.YtbfjlhjfpmgplaaDoorRow
import Derived.Test.YtbfjlhjfpmgplaaDoorRowB
import Derived.Test.YtbfjlhjfpmgplaaDoorPx0
import Derived.Test.YtbfjlhjfpmgplaaDoorPx1
import Derived.Test.YtbfjlhjfpmgplaaDoorPx4
import Derived.Test.YtbfjlhjfpmgplaaDoorPx8
import Derived.Test.YtbfjlhjfpmgplaaDoorPx16
import Derived.Test.YtbfjlhjfpmgplaaDoorPx18
namespace Go.Proofs.YtbfjlhjfpmgplaaDoor.P
open Go.RowKit Go.Proofs.YtbfjlhjfpmgplaaDoorW.PrintWords Go.Proofs.YtbfjlhjfpmgplaaDoorW.PrintLast Go.Proofs.YtbfjlhjfpmgplaaDoorW.PrintMore
attribute [local go_sem] max2_int min2_int max_two min_two max_three min_three max_four min_four   -- for this text's walks alone
set_option linter.unusedVariables false
set_option linter.unusedSimpArgs false

attribute [local go_sem high] eqA24
/-! ### gangwaylaw09_BpduBack: function 6 -/
theorem neql24 {ops : Array Oper} {rest : List Oper} {o : Oper} {a : Act} {Q : Exit → Act → World → Prop} {W : World} {x y : Operand} {x0 y0 : Int} {x1 y1 : Bool} {x2 y2 : Bool} {x3 y3 : Bool} {x4 y4 : Bool} {x5 y5 : Bool} {x6 y6 : Bool} {x7 y7 : Int} {x8 y8 : Int} {x9 y9 : Int} {x10 y10 : Int} {x11 y11 : Int} {x12 y12 : Int} {x13 y13 : Int} {x14 y14 : Int} {x15 y15 : Int} (ho : o.op = .binOp .neq 24 x y 24) (hgd : o.guard = none) (hx : a.eval x = .agg #[.int .i64 x0, .bool x1, .bool x2, .bool x3, .bool x4, .bool x5, .bool x6, .int .i64 x7, .int .u64 x8, .int .i64 x9, .int .u64 x10, .int .i64 x11, .int .i64 x12, .int .i64 x13, .int .i64 x14, .int .i64 x15]) (hy : a.eval y = .agg #[.int .i64 y0, .bool y1, .bool y2, .bool y3, .bool y4, .bool y5, .bool y6, .int .i64 y7, .int .u64 y8, .int .i64 y9, .int .u64 y10, .int .i64 y11, .int .i64 y12, .int .i64 y13, .int .i64 y14, .int .i64 y15]) (q : Bool) (hq : (!(x0 == y0 && (x1 == y1 && (x2 == y2 && (x3 == y3 && (x4 == y4 && (x5 == y5 && (x6 == y6 && (x7 == y7 && (x8 == y8 && (x9 == y9 && (x10 == y10 && (x11 == y11 && (x12 == y12 && (x13 == y13 && (x14 == y14 && (x15 == y15))))))))))))))))) = q) (h : wpList Tryd.prog ops Q rest (a.put o.dst (.bool q)) W) : wpList Tryd.prog ops Q (o :: rest) a W := by
  refine Kd.event_run hgd ?_ h
  unfold execOp
  rw [ho]
  generalize a.eval = E at *
  simp [go_sem, hx, hy, eqA24, -Bool.and_eq_true]
  try (rw [← hq]; simp)

mutual
def gangwaylaw09_BpduBack.j0 : Nat → ByteArray → Int → Bool → Bool → Bool → Bool → Bool → Bool → Int → Int → Int → Int → Int → Int → Int → Int → Int → Option (Bool)
 | 0, _, _, _, _, _, _, _, _, _, _, _, _, _, _, _, _, _ => none
 | k + 1, x1, x537000, x537001, x537002, x537003, x537004, x537005, x537006, x537007, x537008, x537009, x537010, x537011, x537012, x537013, x537014, x537015 => (bpdu_Build.f k x537000 x537001 x537002 x537003 x537004 x537005 x537006 x537007 x537008 x537009 x537010 x537011 x537012 x537013 x537014 x537015).bind fun bt537 => (if bt537.2 = 0 then (if bt537.1.size + x1.size ≤ 9223372036854775807 then ((bpdu_Parse.f k (bt537.1 ++ x1)).bind fun bt539 => (if bt539.2.2.2.2.2.2.2.2.2.2.2.2.2.2.2.2 = 0 then (if (!(bt539.1 == x537000) || (!(bt539.2.1 == x537001) || (!(bt539.2.2.1 == x537002) || (!(bt539.2.2.2.1 == x537003) || (!(bt539.2.2.2.2.1 == x537004) || (!(bt539.2.2.2.2.2.1 == x537005) || (!(bt539.2.2.2.2.2.2.1 == x537006) || (!(bt539.2.2.2.2.2.2.2.1 == x537007) || (!(bt539.2.2.2.2.2.2.2.2.1 == x537008) || (!(bt539.2.2.2.2.2.2.2.2.2.1 == x537009) || (!(bt539.2.2.2.2.2.2.2.2.2.2.1 == x537010) || (!(bt539.2.2.2.2.2.2.2.2.2.2.2.1 == x537011) || (!(bt539.2.2.2.2.2.2.2.2.2.2.2.2.1 == x537012) || (!(bt539.2.2.2.2.2.2.2.2.2.2.2.2.2.1 == x537013) || (!(bt539.2.2.2.2.2.2.2.2.2.2.2.2.2.2.1 == x537014) || (!(bt539.2.2.2.2.2.2.2.2.2.2.2.2.2.2.2.1 == x537015))))))))))))))))) = true then (none) else (gangwaylaw09_BpduBack.j1 k x1)) else (none))) else (none)) else (gangwaylaw09_BpduBack.j1 k x1))
def gangwaylaw09_BpduBack.j1 : Nat → ByteArray → Option (Bool)
 | 0, _ => none
 | k + 1, x1 => (bpdu_Parse.f k x1).bind fun bt557 => (if bt557.2.2.2.2.2.2.2.2.2.2.2.2.2.2.2.2 = 0 then ((bpdu_Build.f k bt557.1 bt557.2.1 bt557.2.2.1 bt557.2.2.2.1 bt557.2.2.2.2.1 bt557.2.2.2.2.2.1 bt557.2.2.2.2.2.2.1 bt557.2.2.2.2.2.2.2.1 bt557.2.2.2.2.2.2.2.2.1 bt557.2.2.2.2.2.2.2.2.2.1 bt557.2.2.2.2.2.2.2.2.2.2.1 bt557.2.2.2.2.2.2.2.2.2.2.2.1 bt557.2.2.2.2.2.2.2.2.2.2.2.2.1 bt557.2.2.2.2.2.2.2.2.2.2.2.2.2.1 bt557.2.2.2.2.2.2.2.2.2.2.2.2.2.2.1 bt557.2.2.2.2.2.2.2.2.2.2.2.2.2.2.2.1).bind fun bt576 => ((bpdu_Parse.f k bt576.1).bind fun bt578 => ((bpdu_Check.f k bt557.1 bt557.2.1 bt557.2.2.1 bt557.2.2.2.1 bt557.2.2.2.2.1 bt557.2.2.2.2.2.1 bt557.2.2.2.2.2.2.1 bt557.2.2.2.2.2.2.2.1 bt557.2.2.2.2.2.2.2.2.1 bt557.2.2.2.2.2.2.2.2.2.1 bt557.2.2.2.2.2.2.2.2.2.2.1 bt557.2.2.2.2.2.2.2.2.2.2.2.1 bt557.2.2.2.2.2.2.2.2.2.2.2.2.1 bt557.2.2.2.2.2.2.2.2.2.2.2.2.2.1 bt557.2.2.2.2.2.2.2.2.2.2.2.2.2.2.1 bt557.2.2.2.2.2.2.2.2.2.2.2.2.2.2.2.1).bind fun t596 => (if t596 = 0 then (if bt576.2 = 0 then (if bt578.2.2.2.2.2.2.2.2.2.2.2.2.2.2.2.2 = 0 then (if (bt578.1 == bt557.1 && (bt578.2.1 == bt557.2.1 && (bt578.2.2.1 == bt557.2.2.1 && (bt578.2.2.2.1 == bt557.2.2.2.1 && (bt578.2.2.2.2.1 == bt557.2.2.2.2.1 && (bt578.2.2.2.2.2.1 == bt557.2.2.2.2.2.1 && (bt578.2.2.2.2.2.2.1 == bt557.2.2.2.2.2.2.1 && (bt578.2.2.2.2.2.2.2.1 == bt557.2.2.2.2.2.2.2.1 && (bt578.2.2.2.2.2.2.2.2.1 == bt557.2.2.2.2.2.2.2.2.1 && (bt578.2.2.2.2.2.2.2.2.2.1 == bt557.2.2.2.2.2.2.2.2.2.1 && (bt578.2.2.2.2.2.2.2.2.2.2.1 == bt557.2.2.2.2.2.2.2.2.2.2.1 && (bt578.2.2.2.2.2.2.2.2.2.2.2.1 == bt557.2.2.2.2.2.2.2.2.2.2.2.1 && (bt578.2.2.2.2.2.2.2.2.2.2.2.2.1 == bt557.2.2.2.2.2.2.2.2.2.2.2.2.1 && (bt578.2.2.2.2.2.2.2.2.2.2.2.2.2.1 == bt557.2.2.2.2.2.2.2.2.2.2.2.2.2.1 && (bt578.2.2.2.2.2.2.2.2.2.2.2.2.2.2.1 == bt557.2.2.2.2.2.2.2.2.2.2.2.2.2.2.1 && (bt578.2.2.2.2.2.2.2.2.2.2.2.2.2.2.2.1 == bt557.2.2.2.2.2.2.2.2.2.2.2.2.2.2.2.1)))))))))))))))) = true then (if (bt576.1.size : Int) ≤ (x1.size : Int) then ((gangwaylaw09_fixed.f k).bind fun t597 => (some t597)) else (none)) else (none)) else (none)) else (none)) else (none))))) else (if (bt557.1 == 0 && (!bt557.2.1 && (!bt557.2.2.1 && (!bt557.2.2.2.1 && (!bt557.2.2.2.2.1 && (!bt557.2.2.2.2.2.1 && (!bt557.2.2.2.2.2.2.1 && (bt557.2.2.2.2.2.2.2.1 == 0 && (bt557.2.2.2.2.2.2.2.2.1 == 0 && (bt557.2.2.2.2.2.2.2.2.2.1 == 0 && (bt557.2.2.2.2.2.2.2.2.2.2.1 == 0 && (bt557.2.2.2.2.2.2.2.2.2.2.2.1 == 0 && (bt557.2.2.2.2.2.2.2.2.2.2.2.2.1 == 0 && (bt557.2.2.2.2.2.2.2.2.2.2.2.2.2.1 == 0 && (bt557.2.2.2.2.2.2.2.2.2.2.2.2.2.2.1 == 0 && (bt557.2.2.2.2.2.2.2.2.2.2.2.2.2.2.2.1 == 0)))))))))))))))) = true then ((gangwaylaw09_fixed.f k).bind fun t575 => (some t575)) else (none)))
end
def gangwaylaw09_BpduBack.f (k : Nat) (a0_0 : Int) (a0_1 : Bool) (a0_2 : Bool) (a0_3 : Bool) (a0_4 : Bool) (a0_5 : Bool) (a0_6 : Bool) (a0_7 : Int) (a0_8 : Int) (a0_9 : Int) (a0_10 : Int) (a0_11 : Int) (a0_12 : Int) (a0_13 : Int) (a0_14 : Int) (a0_15 : Int) (a1 : ByteArray) : Option (Bool) := if 0 ≤ (mn (a1.size : Int) 200) then (if (mn (a1.size : Int) 200) ≤ (a1.size : Int) then (gangwaylaw09_BpduBack.j0 k (a1.extract 0 ((mn (a1.size : Int) 200) : Int).toNat) a0_0 a0_1 a0_2 a0_3 a0_4 a0_5 a0_6 a0_7 a0_8 a0_9 a0_10 a0_11 a0_12 a0_13 a0_14 a0_15) else (none)) else (none)
theorem gangwaylaw09_BpduBack.mono_l : ∀ k, (∀ y0 y1 y2 y3 y4 y5 y6 y7 y8 y9 y10 y11 y12 y13 y14 y15 y16, LeO (gangwaylaw09_BpduBack.j0 k y0 y1 y2 y3 y4 y5 y6 y7 y8 y9 y10 y11 y12 y13 y14 y15 y16) (gangwaylaw09_BpduBack.j0 (k + 1) y0 y1 y2 y3 y4 y5 y6 y7 y8 y9 y10 y11 y12 y13 y14 y15 y16)) ∧ (∀ y0, LeO (gangwaylaw09_BpduBack.j1 k y0) (gangwaylaw09_BpduBack.j1 (k + 1) y0))
 | 0 => ⟨fun _ _ _ _ _ _ _ _ _ _ _ _ _ _ _ _ _ r h => by simp [gangwaylaw09_BpduBack.j0] at h, fun _ r h => by simp [gangwaylaw09_BpduBack.j1] at h⟩
 | k + 1 => by
  obtain ⟨ih0, ih1⟩ := gangwaylaw09_BpduBack.mono_l k
  refine ⟨?_, ?_⟩
  ·intro y0 y1 y2 y3 y4 y5 y6 y7 y8 y9 y10 y11 y12 y13 y14 y15 y16
   unfold gangwaylaw09_BpduBack.j0
   repeat' first
   | (with_reducible exact ih0 _ _ _ _ _ _ _ _ _ _ _ _ _ _ _ _ _)
   | (with_reducible exact ih1 _)
   | (with_reducible exact bpdu_Build.mono _ _ _ _ _ _ _ _ _ _ _ _ _ _ _ _ _)
   | (with_reducible exact bpdu_Check.mono _ _ _ _ _ _ _ _ _ _ _ _ _ _ _ _ _)
   | (with_reducible exact bpdu_Parse.mono _ _)
   | (with_reducible exact gangwaylaw09_fixed.mono _)
   | (with_reducible exact LeO.refl _)
   | (with_reducible exact LeO.none _)
   | (with_reducible refine LeO.ite ?_ ?_)
   | (with_reducible refine LeO.bind ?_ (fun _ => ?_))
   | exact ih0 _ _ _ _ _ _ _ _ _ _ _ _ _ _ _ _ _
   | exact ih1 _
   | exact bpdu_Build.mono _ _ _ _ _ _ _ _ _ _ _ _ _ _ _ _ _
   | exact bpdu_Check.mono _ _ _ _ _ _ _ _ _ _ _ _ _ _ _ _ _
   | exact bpdu_Parse.mono _ _
   | exact gangwaylaw09_fixed.mono _
   | exact LeO.none _
   | refine LeO.ite ?_ ?_
   | refine LeO.bind ?_ (fun _ => ?_)
  ·intro y0
   unfold gangwaylaw09_BpduBack.j1
   repeat' first
   | (with_reducible exact ih0 _ _ _ _ _ _ _ _ _ _ _ _ _ _ _ _ _)
   | (with_reducible exact ih1 _)
   | (with_reducible exact bpdu_Build.mono _ _ _ _ _ _ _ _ _ _ _ _ _ _ _ _ _)
   | (with_reducible exact bpdu_Check.mono _ _ _ _ _ _ _ _ _ _ _ _ _ _ _ _ _)
   | (with_reducible exact bpdu_Parse.mono _ _)
   | (with_reducible exact gangwaylaw09_fixed.mono _)
   | (with_reducible exact LeO.refl _)
   | (with_reducible exact LeO.none _)
   | (with_reducible refine LeO.ite ?_ ?_)
   | (with_reducible refine LeO.bind ?_ (fun _ => ?_))
   | exact ih0 _ _ _ _ _ _ _ _ _ _ _ _ _ _ _ _ _
   | exact ih1 _
   | exact bpdu_Build.mono _ _ _ _ _ _ _ _ _ _ _ _ _ _ _ _ _
   | exact bpdu_Check.mono _ _ _ _ _ _ _ _ _ _ _ _ _ _ _ _ _
   | exact bpdu_Parse.mono _ _
   | exact gangwaylaw09_fixed.mono _
   | exact LeO.none _
   | refine LeO.ite ?_ ?_
   | refine LeO.bind ?_ (fun _ => ?_)
theorem gangwaylaw09_BpduBack.mono : ∀ a0 a1 a2 a3 a4 a5 a6 a7 a8 a9 a10 a11 a12 a13 a14 a15 a16 k, LeO (gangwaylaw09_BpduBack.f k a0 a1 a2 a3 a4 a5 a6 a7 a8 a9 a10 a11 a12 a13 a14 a15 a16) (gangwaylaw09_BpduBack.f (k + 1) a0 a1 a2 a3 a4 a5 a6 a7 a8 a9 a10 a11 a12 a13 a14 a15 a16) := by
 intro a0 a1 a2 a3 a4 a5 a6 a7 a8 a9 a10 a11 a12 a13 a14 a15 a16 k
 obtain ⟨ih0, ih1⟩ := gangwaylaw09_BpduBack.mono_l k
 unfold gangwaylaw09_BpduBack.f
 repeat' first
   | (with_reducible exact ih0 _ _ _ _ _ _ _ _ _ _ _ _ _ _ _ _ _)
   | (with_reducible exact ih1 _)
   | (with_reducible exact bpdu_Build.mono _ _ _ _ _ _ _ _ _ _ _ _ _ _ _ _ _)
   | (with_reducible exact bpdu_Check.mono _ _ _ _ _ _ _ _ _ _ _ _ _ _ _ _ _)
   | (with_reducible exact bpdu_Parse.mono _ _)
   | (with_reducible exact gangwaylaw09_fixed.mono _)
   | (with_reducible exact LeO.refl _)
   | (with_reducible exact LeO.none _)
   | (with_reducible refine LeO.ite ?_ ?_)
   | (with_reducible refine LeO.bind ?_ (fun _ => ?_))
   | exact ih0 _ _ _ _ _ _ _ _ _ _ _ _ _ _ _ _ _
   | exact ih1 _
   | exact bpdu_Build.mono _ _ _ _ _ _ _ _ _ _ _ _ _ _ _ _ _
   | exact bpdu_Check.mono _ _ _ _ _ _ _ _ _ _ _ _ _ _ _ _ _
   | exact bpdu_Parse.mono _ _
   | exact gangwaylaw09_fixed.mono _
   | exact LeO.none _
   | refine LeO.ite ?_ ?_
   | refine LeO.bind ?_ (fun _ => ?_)
set_option maxHeartbeats 8000000 in
set_option maxRecDepth 100000 in
theorem gangwaylaw09_BpduBack.calls (k : Nat) (a0_0 : Int) (a0_1 : Bool) (a0_2 : Bool) (a0_3 : Bool) (a0_4 : Bool) (a0_5 : Bool) (a0_6 : Bool) (a0_7 : Int) (a0_8 : Int) (a0_9 : Int) (a0_10 : Int) (a0_11 : Int) (a0_12 : Int) (a0_13 : Int) (a0_14 : Int) (a0_15 : Int) (a1 : ByteArray) (r : Bool) (w : World) (h : gangwaylaw09_BpduBack.f k a0_0 a0_1 a0_2 a0_3 a0_4 a0_5 a0_6 a0_7 a0_8 a0_9 a0_10 a0_11 a0_12 a0_13 a0_14 a0_15 a1 = some r) :
  Calls Tryd.prog 6 #[.agg #[.int .i64 a0_0, .bool a0_1, .bool a0_2, .bool a0_3, .bool a0_4, .bool a0_5, .bool a0_6, .int .i64 a0_7, .int .u64 a0_8, .int .i64 a0_9, .int .u64 a0_10, .int .i64 a0_11, .int .i64 a0_12, .int .i64 a0_13, .int .i64 a0_14, .int .i64 a0_15], .string a1] w fun e w' => e = .returned (.bool r) ∧ Below w.heap.size w w' := by
 have hu24 := Tryd.underlying24
 have HB := Aside0.mk (Below.refl w.heap.size w)
 have H : (if 0 ≤ (mn (a1.size : Int) 200) then (if (mn (a1.size : Int) 200) ≤ (a1.size : Int) then (gangwaylaw09_BpduBack.j0 k (a1.extract 0 ((mn (a1.size : Int) 200) : Int).toNat) a0_0 a0_1 a0_2 a0_3 a0_4 a0_5 a0_6 a0_7 a0_8 a0_9 a0_10 a0_11 a0_12 a0_13 a0_14 a0_15) else (none)) else (none)) = some r := h
 clear h
 have HC3 := Aside0.mk H
 clear H
 go_enter Tryd.func6, Tryd.ntmps6
 go_upto_region 1 with (first | ((with_reducible refine gate_st (ty := 24) rfl ?_); (try (with_reducible refine gate_gd rfl ?_; refine gate_guard (by first | rfl | exact wanted_on rfl rfl rfl (by first | rfl | (simp [*]; done))) ?_; dsimp only)); refine storeC16 rfl rfl rfl rfl rfl (by repeat (first | (with_reducible apply blk_far; case hp => assumption) | (with_reducible apply blk_set) | (with_reducible refine blk_drewN ?_ _) | (with_reducible refine blk_drew ?_) | (with_reducible refine blk_alloc ?_ _) | (first | with_reducible exact BK536.out | with_reducible exact BK556.out | with_reducible exact BK574.out | with_reducible exact BK595.out))) (by first | (simp only [List.setIfInBounds_toArray, List.set_cons_zero, List.set_cons_succ] <;> rfl) | rfl) (by kernel_rfl) rfl ?_) | ((with_reducible refine gate_ld (ty := 24) rfl ?_); (try (with_reducible refine gate_gd rfl ?_; refine gate_guard (by first | rfl | exact wanted_on rfl rfl rfl (by first | rfl | (simp [*]; done))) ?_; dsimp only)); refine load_st rfl rfl rfl (by repeat (first | (with_reducible apply blk_far; case hp => assumption) | (with_reducible apply blk_set) | (with_reducible refine blk_drewN ?_ _) | (with_reducible refine blk_drew ?_) | (with_reducible refine blk_alloc ?_ _) | (first | with_reducible exact BK536.out | with_reducible exact BK556.out | with_reducible exact BK574.out | with_reducible exact BK595.out))) (by first | (simp only [List.setIfInBounds_toArray, List.set_cons_zero, List.set_cons_succ] <;> rfl) | rfl) Tryd.underlying24 rfl (by kernel_rfl) ?_; (try simp only [Act.put, List.setIfInBounds_toArray, List.set_cons_zero, List.set_cons_succ])) | ((with_reducible refine gate_eql (ty := 24) rfl ?_); (try (with_reducible refine gate_gd rfl ?_; refine gate_guard (by first | rfl | exact wanted_on rfl rfl rfl (by first | rfl | (simp [*]; done))) ?_; dsimp only)); refine eql24 rfl rfl rfl rfl true (by first | exact c16b0 | (simpa using c16b0) | exact c30b0 | (simpa using c30b0) | exact c48b0 | (simpa using c48b0)) ?_; (try simp only [Act.put, List.setIfInBounds_toArray, List.set_cons_zero, List.set_cons_succ])) | ((with_reducible refine gate_neq (ty := 24) rfl ?_); (try (with_reducible refine gate_gd rfl ?_; refine gate_guard (by first | rfl | exact wanted_on rfl rfl rfl (by first | rfl | (simp [*]; done))) ?_; dsimp only)); refine neql24 rfl rfl rfl rfl true (by first | exact c16b0 | (simpa using c16b0) | exact c30b0 | (simpa using c30b0) | exact c48b0 | (simpa using c48b0)) ?_; (try simp only [Act.put, List.setIfInBounds_toArray, List.set_cons_zero, List.set_cons_succ])) | ((with_reducible refine gate_eql (ty := 24) rfl ?_); (try (with_reducible refine gate_gd rfl ?_; refine gate_guard (by first | rfl | exact wanted_on rfl rfl rfl (by first | rfl | (simp [*]; done))) ?_; dsimp only)); refine eql24 rfl rfl rfl rfl false (by first | exact c16b0 | (simpa using c16b0) | exact c30b0 | (simpa using c30b0) | exact c48b0 | (simpa using c48b0)) ?_; (try simp only [Act.put, List.setIfInBounds_toArray, List.set_cons_zero, List.set_cons_succ])) | ((with_reducible refine gate_neq (ty := 24) rfl ?_); (try (with_reducible refine gate_gd rfl ?_; refine gate_guard (by first | rfl | exact wanted_on rfl rfl rfl (by first | rfl | (simp [*]; done))) ?_; dsimp only)); refine neql24 rfl rfl rfl rfl false (by first | exact c16b0 | (simpa using c16b0) | exact c30b0 | (simpa using c30b0) | exact c48b0 | (simpa using c48b0)) ?_; (try simp only [Act.put, List.setIfInBounds_toArray, List.set_cons_zero, List.set_cons_succ])) | ((with_reducible refine gate_dst (N := 2) rfl ?_); (try (refine gate_guard (by rfl) ?_; dsimp only)); refine box_event ?hg (N := 2) ?hd (cs := #[.int .i64 a0_0, .bool a0_1, .bool a0_2, .bool a0_3, .bool a0_4, .bool a0_5, .bool a0_6, .int .i64 a0_7, .int .u64 a0_8, .int .i64 a0_9, .int .u64 a0_10, .int .i64 a0_11, .int .i64 a0_12, .int .i64 a0_13, .int .i64 a0_14, .int .i64 a0_15]) (t := 24) ?hr ?_; (case hd => rfl); (case hg => rfl); (case hr => first | (go_simp; done) | (go_simp; rfl)); intro gb536 hg w4 hbox hb; have n0_ := Aside0.mk (below_step (by repeat (first | (with_reducible first | exact HB.out | apply below_alloc | apply pw_below_drewN | apply below_drew1) | exact HB.out)) hb); have n1_ := Aside0.mk (hbox); have n2_ := Aside0.mk ((by rw [hg]; exact (below_size (by repeat (first | (with_reducible first | exact HB.out | apply below_alloc | apply pw_below_drewN | apply below_drew1) | exact HB.out))) : w.heap.size ≤ gb536)); have n3_ := Aside0.mk ((by rw [hg]; exact (below_size (by repeat (first | (with_reducible first | exact HB.out | apply below_alloc | apply pw_below_drewN | apply below_drew1) | exact HB.out))) : w.heap.size ≤ gb536)); clear HB; have HB := n0_; have BK536 := n1_; have GW536 := n2_; have GE536 := n3_; clear n0_ n1_ n2_ n3_; clear hb hbox hg))
 (try simp only [Act.put, List.setIfInBounds_toArray, List.set_cons_zero, List.set_cons_succ])
 go_cut [1] (fun v1 wc => ∃ (kq : Nat) (x1_2 : ByteArray), v1 = .string x1_2 ∧ Aside0 (gangwaylaw09_BpduBack.j0 kq x1_2 a0_0 a0_1 a0_2 a0_3 a0_4 a0_5 a0_6 a0_7 a0_8 a0_9 a0_10 a0_11 a0_12 a0_13 a0_14 a0_15 = some r) ∧ Aside0 (kq ≤ k) ∧ Aside0 (wc.heap[gb536]? = some (.cells #[.int .i64 a0_0, .bool a0_1, .bool a0_2, .bool a0_3, .bool a0_4, .bool a0_5, .bool a0_6, .int .i64 a0_7, .int .u64 a0_8, .int .i64 a0_9, .int .u64 a0_10, .int .i64 a0_11, .int .i64 a0_12, .int .i64 a0_13, .int .i64 a0_14, .int .i64 a0_15] 24 (0, 0))) ∧ Aside0 (Below w.heap.size w wc))
 case first =>
  have H := HC3.out
  clear HC3
  obtain ⟨ji5, hji5⟩ : ∃ j_ : Int, (mn (a1.size : Int) 200) = j_ := ⟨_, rfl⟩
  replace H : (if 0 ≤ (ji5) then (if (ji5) ≤ (a1.size : Int) then (gangwaylaw09_BpduBack.j0 k (a1.extract 0 ((ji5) : Int).toNat) a0_0 a0_1 a0_2 a0_3 a0_4 a0_5 a0_6 a0_7 a0_8 a0_9 a0_10 a0_11 a0_12 a0_13 a0_14 a0_15) else (none)) else (none)) = some r := by first | (rw [hji5] at H; exact H) | (simp only [hji5] at H ⊢; exact H)
  (try (have hji5h : ji5 ≤ 200 := by (rw [← hji5]; unfold mn; (repeat' split) <;> omega)))
  (try (have hji5g : ji5 ≤ 64 := by omega))
  (try (have hji5l : 0 ≤ ji5 := by (rw [← hji5]; unfold mn; (repeat' split) <;> omega)))
  (try (have hji5m : 0 ≤ ji5 := by omega))
  have hji5_ : (if 200 < (a1.size : Int) then 200 else (a1.size : Int)) = ji5 := hji5
  by_cases c6 : 0 ≤ (ji5)
  ·rw [if_pos c6] at H
   have c6b0 := eq_true c6
   have c6b1 : decide (0 ≤ (ji5)) = true := decide_eq_true c6
   clear c6
   by_cases c7 : (ji5) ≤ (a1.size : Int)
   ·rw [if_pos c7] at H
    have c7b0 := eq_true c7
    have c7b1 : decide ((ji5) ≤ (a1.size : Int)) = true := decide_eq_true c7
    clear c7
    have H' := Aside0.mk H
    clear H
    go_wp2_with (first | ((with_reducible refine gate_st (ty := 24) rfl ?_); (try (with_reducible refine gate_gd rfl ?_; refine gate_guard (by first | rfl | exact wanted_on rfl rfl rfl (by first | rfl | (simp [*]; done))) ?_; dsimp only)); refine storeC16 rfl rfl rfl rfl rfl (by repeat (first | (with_reducible apply blk_far; case hp => assumption) | (with_reducible apply blk_set) | (with_reducible refine blk_drewN ?_ _) | (with_reducible refine blk_drew ?_) | (with_reducible refine blk_alloc ?_ _) | (first | with_reducible exact BK536.out | with_reducible exact BK556.out | with_reducible exact BK574.out | with_reducible exact BK595.out))) (by first | (simp only [List.setIfInBounds_toArray, List.set_cons_zero, List.set_cons_succ] <;> rfl) | rfl) (by kernel_rfl) rfl ?_) | ((with_reducible refine gate_ld (ty := 24) rfl ?_); (try (with_reducible refine gate_gd rfl ?_; refine gate_guard (by first | rfl | exact wanted_on rfl rfl rfl (by first | rfl | (simp [*]; done))) ?_; dsimp only)); refine load_st rfl rfl rfl (by repeat (first | (with_reducible apply blk_far; case hp => assumption) | (with_reducible apply blk_set) | (with_reducible refine blk_drewN ?_ _) | (with_reducible refine blk_drew ?_) | (with_reducible refine blk_alloc ?_ _) | (first | with_reducible exact BK536.out | with_reducible exact BK556.out | with_reducible exact BK574.out | with_reducible exact BK595.out))) (by first | (simp only [List.setIfInBounds_toArray, List.set_cons_zero, List.set_cons_succ] <;> rfl) | rfl) Tryd.underlying24 rfl (by kernel_rfl) ?_; (try simp only [Act.put, List.setIfInBounds_toArray, List.set_cons_zero, List.set_cons_succ])) | ((with_reducible refine gate_eql (ty := 24) rfl ?_); (try (with_reducible refine gate_gd rfl ?_; refine gate_guard (by first | rfl | exact wanted_on rfl rfl rfl (by first | rfl | (simp [*]; done))) ?_; dsimp only)); refine eql24 rfl rfl rfl rfl true (by first | exact c16b0 | (simpa using c16b0) | exact c30b0 | (simpa using c30b0) | exact c48b0 | (simpa using c48b0)) ?_; (try simp only [Act.put, List.setIfInBounds_toArray, List.set_cons_zero, List.set_cons_succ])) | ((with_reducible refine gate_neq (ty := 24) rfl ?_); (try (with_reducible refine gate_gd rfl ?_; refine gate_guard (by first | rfl | exact wanted_on rfl rfl rfl (by first | rfl | (simp [*]; done))) ?_; dsimp only)); refine neql24 rfl rfl rfl rfl true (by first | exact c16b0 | (simpa using c16b0) | exact c30b0 | (simpa using c30b0) | exact c48b0 | (simpa using c48b0)) ?_; (try simp only [Act.put, List.setIfInBounds_toArray, List.set_cons_zero, List.set_cons_succ])) | ((with_reducible refine gate_eql (ty := 24) rfl ?_); (try (with_reducible refine gate_gd rfl ?_; refine gate_guard (by first | rfl | exact wanted_on rfl rfl rfl (by first | rfl | (simp [*]; done))) ?_; dsimp only)); refine eql24 rfl rfl rfl rfl false (by first | exact c16b0 | (simpa using c16b0) | exact c30b0 | (simpa using c30b0) | exact c48b0 | (simpa using c48b0)) ?_; (try simp only [Act.put, List.setIfInBounds_toArray, List.set_cons_zero, List.set_cons_succ])) | ((with_reducible refine gate_neq (ty := 24) rfl ?_); (try (with_reducible refine gate_gd rfl ?_; refine gate_guard (by first | rfl | exact wanted_on rfl rfl rfl (by first | rfl | (simp [*]; done))) ?_; dsimp only)); refine neql24 rfl rfl rfl rfl false (by first | exact c16b0 | (simpa using c16b0) | exact c30b0 | (simpa using c30b0) | exact c48b0 | (simpa using c48b0)) ?_; (try simp only [Act.put, List.setIfInBounds_toArray, List.set_cons_zero, List.set_cons_succ])) | go_in)
    go_meet
    case rel => exact ⟨_, (a1.extract 0 ((ji5) : Int).toNat), (by first | rfl | (simp; done) | (simp only [← hji5] <;> (first | rfl | simp)) | (simp [*]; done)), H', ⟨by first | omega | exact Nat.le_refl _⟩, ⟨by (with_reducible repeat (first | refine blk_drewN ?_ _ | refine blk_drew ?_ | refine blk_alloc ?_ _)); exact BK536.out⟩, ⟨by repeat (first | (with_reducible first | exact HB.out | apply below_alloc | apply pw_below_drewN | apply below_drew1 | refine below_set ?_ GE536.out) | exact HB.out)⟩⟩
   ·rw [if_neg c7] at H
    exact absurd H (by simp)
  ·rw [if_neg c6] at H
   exact absurd H (by simp)
 case rest =>
  clear HC3
  try clear p2
  try clear c6
  try clear c6b0
  try clear c6b1
  try clear c7
  try clear c7b0
  try clear c7b1
  obtain ⟨kq, x1_2, rfl, HA, HJ2, BK536, HB⟩ := hcut
  cases kq with
  | zero => exact absurd HA.out (by simp [gangwaylaw09_BpduBack.j0])
  | succ kj2 =>
   have H := HA.out
   clear HA
   simp only [gangwaylaw09_BpduBack.j0] at H
   replace H := Option.bind_eq_some_iff.mp H
   obtain ⟨⟨t537, t538⟩, A80, H⟩ := H
   replace H : (if t538 = 0 then (if t537.size + x1_2.size ≤ 9223372036854775807 then ((bpdu_Parse.f kj2 (t537 ++ x1_2)).bind fun bt539 => (if bt539.2.2.2.2.2.2.2.2.2.2.2.2.2.2.2.2 = 0 then (if (!(bt539.1 == a0_0) || (!(bt539.2.1 == a0_1) || (!(bt539.2.2.1 == a0_2) || (!(bt539.2.2.2.1 == a0_3) || (!(bt539.2.2.2.2.1 == a0_4) || (!(bt539.2.2.2.2.2.1 == a0_5) || (!(bt539.2.2.2.2.2.2.1 == a0_6) || (!(bt539.2.2.2.2.2.2.2.1 == a0_7) || (!(bt539.2.2.2.2.2.2.2.2.1 == a0_8) || (!(bt539.2.2.2.2.2.2.2.2.2.1 == a0_9) || (!(bt539.2.2.2.2.2.2.2.2.2.2.1 == a0_10) || (!(bt539.2.2.2.2.2.2.2.2.2.2.2.1 == a0_11) || (!(bt539.2.2.2.2.2.2.2.2.2.2.2.2.1 == a0_12) || (!(bt539.2.2.2.2.2.2.2.2.2.2.2.2.2.1 == a0_13) || (!(bt539.2.2.2.2.2.2.2.2.2.2.2.2.2.2.1 == a0_14) || (!(bt539.2.2.2.2.2.2.2.2.2.2.2.2.2.2.2.1 == a0_15))))))))))))))))) = true then (none) else (gangwaylaw09_BpduBack.j1 kj2 x1_2)) else (none))) else (none)) else (gangwaylaw09_BpduBack.j1 kj2 x1_2)) = some r := H
   have A8 := Aside0.mk A80
   clear A80
   have HC9 := Aside0.mk H
   clear H
   obtain ⟨hcz10_0, hcz10_1, hcz10_2, hcz10_3, hcz10_4, hcz10_5, hcz10_6, hcz10_7, hcz10_8, hcz10_9, hcz10_10, hcz10_11, hcz10_12, hcz10_13, hcz10_14, hcz10_15⟩ := cells16 BK536.out
   obtain ⟨hfz10_0, hfz10_1, hfz10_2, hfz10_3, hfz10_4, hfz10_5, hfz10_6, hfz10_7, hfz10_8, hfz10_9, hfz10_10, hfz10_11, hfz10_12, hfz10_13, hfz10_14, hfz10_15⟩ := frozen16 BK536.out
   go_upto_if 26 with (first | ((with_reducible refine gate_st (ty := 24) rfl ?_); (try (with_reducible refine gate_gd rfl ?_; refine gate_guard (by first | rfl | exact wanted_on rfl rfl rfl (by first | rfl | (simp [*]; done))) ?_; dsimp only)); refine storeC16 rfl rfl rfl rfl rfl (by repeat (first | (with_reducible apply blk_far; case hp => assumption) | (with_reducible apply blk_set) | (with_reducible refine blk_drewN ?_ _) | (with_reducible refine blk_drew ?_) | (with_reducible refine blk_alloc ?_ _) | (first | with_reducible exact BK536.out | with_reducible exact BK556.out | with_reducible exact BK574.out | with_reducible exact BK595.out))) (by first | (simp only [List.setIfInBounds_toArray, List.set_cons_zero, List.set_cons_succ] <;> rfl) | rfl) (by kernel_rfl) rfl ?_) | ((with_reducible refine gate_ld (ty := 24) rfl ?_); (try (with_reducible refine gate_gd rfl ?_; refine gate_guard (by first | rfl | exact wanted_on rfl rfl rfl (by first | rfl | (simp [*]; done))) ?_; dsimp only)); refine load_st rfl rfl rfl (by repeat (first | (with_reducible apply blk_far; case hp => assumption) | (with_reducible apply blk_set) | (with_reducible refine blk_drewN ?_ _) | (with_reducible refine blk_drew ?_) | (with_reducible refine blk_alloc ?_ _) | (first | with_reducible exact BK536.out | with_reducible exact BK556.out | with_reducible exact BK574.out | with_reducible exact BK595.out))) (by first | (simp only [List.setIfInBounds_toArray, List.set_cons_zero, List.set_cons_succ] <;> rfl) | rfl) Tryd.underlying24 rfl (by kernel_rfl) ?_; (try simp only [Act.put, List.setIfInBounds_toArray, List.set_cons_zero, List.set_cons_succ])) | ((with_reducible refine gate_eql (ty := 24) rfl ?_); (try (with_reducible refine gate_gd rfl ?_; refine gate_guard (by first | rfl | exact wanted_on rfl rfl rfl (by first | rfl | (simp [*]; done))) ?_; dsimp only)); refine eql24 rfl rfl rfl rfl true (by first | exact c16b0 | (simpa using c16b0) | exact c30b0 | (simpa using c30b0) | exact c48b0 | (simpa using c48b0)) ?_; (try simp only [Act.put, List.setIfInBounds_toArray, List.set_cons_zero, List.set_cons_succ])) | ((with_reducible refine gate_neq (ty := 24) rfl ?_); (try (with_reducible refine gate_gd rfl ?_; refine gate_guard (by first | rfl | exact wanted_on rfl rfl rfl (by first | rfl | (simp [*]; done))) ?_; dsimp only)); refine neql24 rfl rfl rfl rfl true (by first | exact c16b0 | (simpa using c16b0) | exact c30b0 | (simpa using c30b0) | exact c48b0 | (simpa using c48b0)) ?_; (try simp only [Act.put, List.setIfInBounds_toArray, List.set_cons_zero, List.set_cons_succ])) | ((with_reducible refine gate_eql (ty := 24) rfl ?_); (try (with_reducible refine gate_gd rfl ?_; refine gate_guard (by first | rfl | exact wanted_on rfl rfl rfl (by first | rfl | (simp [*]; done))) ?_; dsimp only)); refine eql24 rfl rfl rfl rfl false (by first | exact c16b0 | (simpa using c16b0) | exact c30b0 | (simpa using c30b0) | exact c48b0 | (simpa using c48b0)) ?_; (try simp only [Act.put, List.setIfInBounds_toArray, List.set_cons_zero, List.set_cons_succ])) | ((with_reducible refine gate_neq (ty := 24) rfl ?_); (try (with_reducible refine gate_gd rfl ?_; refine gate_guard (by first | rfl | exact wanted_on rfl rfl rfl (by first | rfl | (simp [*]; done))) ?_; dsimp only)); refine neql24 rfl rfl rfl rfl false (by first | exact c16b0 | (simpa using c16b0) | exact c30b0 | (simpa using c30b0) | exact c48b0 | (simpa using c48b0)) ?_; (try simp only [Act.put, List.setIfInBounds_toArray, List.set_cons_zero, List.set_cons_succ])) | ((with_reducible refine gate_callee (f := 8) rfl ?_); refine goesL_ (some 22) rfl rfl Tryd.func8 (by kernel_rfl) rfl #[.agg #[.int .i64 a0_0, .bool a0_1, .bool a0_2, .bool a0_3, .bool a0_4, .bool a0_5, .bool a0_6, .int .i64 a0_7, .int .u64 a0_8, .int .i64 a0_9, .int .u64 a0_10, .int .i64 a0_11, .int .i64 a0_12, .int .i64 a0_13, .int .i64 a0_14, .int .i64 a0_15]] rfl (by (try simp only [List.map_toArray, List.map_cons, List.map_nil]); first | done | rfl | (simp only [List.length_drop, List.length_take]; rfl)) ?_; (with_reducible refine (bpdu_Build.calls kj2 a0_0 a0_1 a0_2 a0_3 a0_4 a0_5 a0_6 a0_7 a0_8 a0_9 a0_10 a0_11 a0_12 a0_13 a0_14 a0_15 t537 t538 _ A8.out).mono ?_); rintro e w11 ⟨rfl, hb⟩; refine ⟨_, rfl, ?_⟩; have n0_ := Aside0.mk (blk_below (g := gb536) (by (with_reducible repeat (first | refine blk_drewN ?_ _ | refine blk_drew ?_ | refine blk_alloc ?_ _)); exact BK536.out) hb); have n1_ := Aside0.mk (below_step (by repeat (first | (with_reducible first | exact HB.out | apply below_alloc | apply pw_below_drewN | apply below_drew1 | refine below_set ?_ GE536.out) | exact HB.out)) hb); clear BK536; clear HB; have BK536 := n0_; have HB := n1_; clear n0_ n1_; (try clear hb); (try clear hb2); (try clear hk); (try clear hi)))
   (try simp only [Act.put, List.setIfInBounds_toArray, List.set_cons_zero, List.set_cons_succ])
   go_cut [] (fun wc => ∃ (kq : Nat), Aside0 (gangwaylaw09_BpduBack.j1 kq x1_2 = some r) ∧ Aside0 (kq ≤ kj2) ∧ Aside0 (wc.heap[gb536]? = some (.cells #[.int .i64 a0_0, .bool a0_1, .bool a0_2, .bool a0_3, .bool a0_4, .bool a0_5, .bool a0_6, .int .i64 a0_7, .int .u64 a0_8, .int .i64 a0_9, .int .u64 a0_10, .int .i64 a0_11, .int .i64 a0_12, .int .i64 a0_13, .int .i64 a0_14, .int .i64 a0_15] 24 (0, 0))) ∧ Aside0 (Below w.heap.size w wc))
   case first =>
    have H := HC9.out
    clear HC9
    by_cases c12 : t538 = 0
    ·rw [if_pos c12] at H
     have c12b0 : (t538 == 0) = true := beq_iff_eq.mpr c12
     have c12b1 : (t538 != 0) = false := bne_eq_false_iff_eq.mpr c12
     clear c12
     (first | rw [c12b0] | (simp only [i64_w, i32_w]; rw [c12b0]) | skip)
     by_cases c13 : t537.size + x1_2.size ≤ 9223372036854775807
     ·rw [if_pos c13] at H
      have c13b0 := eq_true c13
      have c13b1 : decide (t537.size + x1_2.size ≤ 9223372036854775807) = true := decide_eq_true c13
      try have c13b2 : (9223372036854775807 < t537.size + x1_2.size) = False := eq_false (Nat.not_lt.2 c13)
      replace H := Option.bind_eq_some_iff.mp H
      obtain ⟨⟨t539, t540, t541, t542, t543, t544, t545, t546, t547, t548, t549, t550, t551, t552, t553, t554, t555⟩, A140, H⟩ := H
      replace H : (if t555 = 0 then (if (!(t539 == a0_0) || (!(t540 == a0_1) || (!(t541 == a0_2) || (!(t542 == a0_3) || (!(t543 == a0_4) || (!(t544 == a0_5) || (!(t545 == a0_6) || (!(t546 == a0_7) || (!(t547 == a0_8) || (!(t548 == a0_9) || (!(t549 == a0_10) || (!(t550 == a0_11) || (!(t551 == a0_12) || (!(t552 == a0_13) || (!(t553 == a0_14) || (!(t554 == a0_15))))))))))))))))) = true then (none) else (gangwaylaw09_BpduBack.j1 kj2 x1_2)) else (none)) = some r := H
      have A14 := Aside0.mk A140
      clear A140
      by_cases c15 : t555 = 0
      ·rw [if_pos c15] at H
       have c15b0 : (t555 == 0) = true := beq_iff_eq.mpr c15
       have c15b1 : (t555 != 0) = false := bne_eq_false_iff_eq.mpr c15
       clear c15
       by_cases c16 : (!(t539 == a0_0) || (!(t540 == a0_1) || (!(t541 == a0_2) || (!(t542 == a0_3) || (!(t543 == a0_4) || (!(t544 == a0_5) || (!(t545 == a0_6) || (!(t546 == a0_7) || (!(t547 == a0_8) || (!(t548 == a0_9) || (!(t549 == a0_10) || (!(t550 == a0_11) || (!(t551 == a0_12) || (!(t552 == a0_13) || (!(t553 == a0_14) || (!(t554 == a0_15))))))))))))))))) = true
       ·rw [if_pos c16] at H
        exact absurd H (by simp)
       ·rw [if_neg c16] at H
        have c16b0 : (!(t539 == a0_0) || (!(t540 == a0_1) || (!(t541 == a0_2) || (!(t542 == a0_3) || (!(t543 == a0_4) || (!(t544 == a0_5) || (!(t545 == a0_6) || (!(t546 == a0_7) || (!(t547 == a0_8) || (!(t548 == a0_9) || (!(t549 == a0_10) || (!(t550 == a0_11) || (!(t551 == a0_12) || (!(t552 == a0_13) || (!(t553 == a0_14) || (!(t554 == a0_15))))))))))))))))) = false := by simpa using c16
        clear c16
        have H' := Aside0.mk H
        clear H
        go_wp2_with (first | ((with_reducible refine gate_st (ty := 24) rfl ?_); (try (with_reducible refine gate_gd rfl ?_; refine gate_guard (by first | rfl | exact wanted_on rfl rfl rfl (by first | rfl | (simp [*]; done))) ?_; dsimp only)); refine storeC16 rfl rfl rfl rfl rfl (by repeat (first | (with_reducible apply blk_far; case hp => assumption) | (with_reducible apply blk_set) | (with_reducible refine blk_drewN ?_ _) | (with_reducible refine blk_drew ?_) | (with_reducible refine blk_alloc ?_ _) | (first | with_reducible exact BK536.out | with_reducible exact BK556.out | with_reducible exact BK574.out | with_reducible exact BK595.out))) (by first | (simp only [List.setIfInBounds_toArray, List.set_cons_zero, List.set_cons_succ] <;> rfl) | rfl) (by kernel_rfl) rfl ?_) | ((with_reducible refine gate_ld (ty := 24) rfl ?_); (try (with_reducible refine gate_gd rfl ?_; refine gate_guard (by first | rfl | exact wanted_on rfl rfl rfl (by first | rfl | (simp [*]; done))) ?_; dsimp only)); refine load_st rfl rfl rfl (by repeat (first | (with_reducible apply blk_far; case hp => assumption) | (with_reducible apply blk_set) | (with_reducible refine blk_drewN ?_ _) | (with_reducible refine blk_drew ?_) | (with_reducible refine blk_alloc ?_ _) | (first | with_reducible exact BK536.out | with_reducible exact BK556.out | with_reducible exact BK574.out | with_reducible exact BK595.out))) (by first | (simp only [List.setIfInBounds_toArray, List.set_cons_zero, List.set_cons_succ] <;> rfl) | rfl) Tryd.underlying24 rfl (by kernel_rfl) ?_; (try simp only [Act.put, List.setIfInBounds_toArray, List.set_cons_zero, List.set_cons_succ])) | ((with_reducible refine gate_eql (ty := 24) rfl ?_); (try (with_reducible refine gate_gd rfl ?_; refine gate_guard (by first | rfl | exact wanted_on rfl rfl rfl (by first | rfl | (simp [*]; done))) ?_; dsimp only)); refine eql24 rfl rfl rfl rfl true (by first | exact c16b0 | (simpa using c16b0) | exact c30b0 | (simpa using c30b0) | exact c48b0 | (simpa using c48b0)) ?_; (try simp only [Act.put, List.setIfInBounds_toArray, List.set_cons_zero, List.set_cons_succ])) | ((with_reducible refine gate_neq (ty := 24) rfl ?_); (try (with_reducible refine gate_gd rfl ?_; refine gate_guard (by first | rfl | exact wanted_on rfl rfl rfl (by first | rfl | (simp [*]; done))) ?_; dsimp only)); refine neql24 rfl rfl rfl rfl true (by first | exact c16b0 | (simpa using c16b0) | exact c30b0 | (simpa using c30b0) | exact c48b0 | (simpa using c48b0)) ?_; (try simp only [Act.put, List.setIfInBounds_toArray, List.set_cons_zero, List.set_cons_succ])) | ((with_reducible refine gate_eql (ty := 24) rfl ?_); (try (with_reducible refine gate_gd rfl ?_; refine gate_guard (by first | rfl | exact wanted_on rfl rfl rfl (by first | rfl | (simp [*]; done))) ?_; dsimp only)); refine eql24 rfl rfl rfl rfl false (by first | exact c16b0 | (simpa using c16b0) | exact c30b0 | (simpa using c30b0) | exact c48b0 | (simpa using c48b0)) ?_; (try simp only [Act.put, List.setIfInBounds_toArray, List.set_cons_zero, List.set_cons_succ])) | ((with_reducible refine gate_neq (ty := 24) rfl ?_); (try (with_reducible refine gate_gd rfl ?_; refine gate_guard (by first | rfl | exact wanted_on rfl rfl rfl (by first | rfl | (simp [*]; done))) ?_; dsimp only)); refine neql24 rfl rfl rfl rfl false (by first | exact c16b0 | (simpa using c16b0) | exact c30b0 | (simpa using c30b0) | exact c48b0 | (simpa using c48b0)) ?_; (try simp only [Act.put, List.setIfInBounds_toArray, List.set_cons_zero, List.set_cons_succ])) | ((with_reducible refine gate_callee (f := 13) rfl ?_); refine goesL_ (some 31) rfl rfl Tryd.func13 (by kernel_rfl) rfl #[.string (t537 ++ x1_2)] rfl (by (try simp only [List.map_toArray, List.map_cons, List.map_nil]); first | done | rfl | (simp only [List.length_drop, List.length_take]; rfl)) ?_; (with_reducible refine (bpdu_Parse.calls kj2 (t537 ++ x1_2) t539 t540 t541 t542 t543 t544 t545 t546 t547 t548 t549 t550 t551 t552 t553 t554 t555 _ A14.out).mono ?_); rintro e w17 ⟨rfl, hb⟩; refine ⟨_, rfl, ?_⟩; have n0_ := Aside0.mk (blk_below (g := gb536) (by (with_reducible repeat (first | refine blk_drewN ?_ _ | refine blk_drew ?_ | refine blk_alloc ?_ _)); exact BK536.out) hb); have n1_ := Aside0.mk (below_step (by repeat (first | (with_reducible first | exact HB.out | apply below_alloc | apply pw_below_drewN | apply below_drew1 | refine below_set ?_ GE536.out) | exact HB.out)) hb); clear BK536; clear HB; have BK536 := n0_; have HB := n1_; clear n0_ n1_; obtain ⟨hcy1_536_0, hcy1_536_1, hcy1_536_2, hcy1_536_3, hcy1_536_4, hcy1_536_5, hcy1_536_6, hcy1_536_7, hcy1_536_8, hcy1_536_9, hcy1_536_10, hcy1_536_11, hcy1_536_12, hcy1_536_13, hcy1_536_14, hcy1_536_15⟩ := cells16 BK536.out; (try clear hb); (try clear hb2); (try clear hk); (try clear hi)) | ((with_reducible refine gate_dst (N := 7) rfl ?_); (try (refine gate_guard (by rfl) ?_; dsimp only)); refine box_event ?hg (N := 7) ?hd (cs := #[.int .i64 0, .bool false, .bool false, .bool false, .bool false, .bool false, .bool false, .int .i64 0, .int .u64 0, .int .i64 0, .int .u64 0, .int .i64 0, .int .i64 0, .int .i64 0, .int .i64 0, .int .i64 0]) (t := 24) ?hr ?_; (case hd => rfl); (case hg => rfl); (case hr => first | (go_simp; done) | (go_simp; rfl)); intro gb556 hg w18 hbox hb; have n0_ := Aside0.mk (blk_below (g := gb536) (by (with_reducible repeat (first | refine blk_drewN ?_ _ | refine blk_drew ?_ | refine blk_alloc ?_ _)); exact BK536.out) hb); have n1_ := Aside0.mk (below_step (by repeat (first | (with_reducible first | exact HB.out | apply below_alloc | apply pw_below_drewN | apply below_drew1 | refine below_set ?_ GE536.out) | exact HB.out)) hb); have n2_ := Aside0.mk (hbox); have n3_ := Aside0.mk ((by rw [hg]; exact (below_size (by repeat (first | (with_reducible first | exact HB.out | apply below_alloc | apply pw_below_drewN | apply below_drew1 | refine below_set ?_ GE536.out) | exact HB.out))) : w.heap.size ≤ gb556)); have n4_ := Aside0.mk ((by rw [hg]; exact (below_size (by repeat (first | (with_reducible first | exact HB.out | apply below_alloc | apply pw_below_drewN | apply below_drew1 | refine below_set ?_ GE536.out) | exact HB.out))) : w.heap.size ≤ gb556)); have n5_ := Aside0.mk ((by rw [hg]; exact Nat.ne_of_lt (blk_lt (g := gb536) (by (with_reducible repeat (first | refine blk_drewN ?_ _ | refine blk_drew ?_ | refine blk_alloc ?_ _)); exact BK536.out)) : gb536 ≠ gb556)); have n6_ := Aside0.mk ((by rw [hg]; exact Nat.ne_of_gt (blk_lt (g := gb536) (by (with_reducible repeat (first | refine blk_drewN ?_ _ | refine blk_drew ?_ | refine blk_alloc ?_ _)); exact BK536.out)) : gb556 ≠ gb536)); clear BK536; clear HB; have BK536 := n0_; have HB := n1_; have BK556 := n2_; have GW556 := n3_; have GE556 := n4_; have NB536_556 := n5_; have NB556_536 := n6_; clear n0_ n1_ n2_ n3_ n4_ n5_ n6_; clear hb hbox hg; have hnb19 := NB556_536.out; have hnc19 := NB536_556.out; obtain ⟨hcz20_0, hcz20_1, hcz20_2, hcz20_3, hcz20_4, hcz20_5, hcz20_6, hcz20_7, hcz20_8, hcz20_9, hcz20_10, hcz20_11, hcz20_12, hcz20_13, hcz20_14, hcz20_15⟩ := cells16 BK556.out; obtain ⟨hfz20_0, hfz20_1, hfz20_2, hfz20_3, hfz20_4, hfz20_5, hfz20_6, hfz20_7, hfz20_8, hfz20_9, hfz20_10, hfz20_11, hfz20_12, hfz20_13, hfz20_14, hfz20_15⟩ := frozen16 BK556.out; obtain ⟨hcz21_0, hcz21_1, hcz21_2, hcz21_3, hcz21_4, hcz21_5, hcz21_6, hcz21_7, hcz21_8, hcz21_9, hcz21_10, hcz21_11, hcz21_12, hcz21_13, hcz21_14, hcz21_15⟩ := cells16 BK536.out; obtain ⟨hfz21_0, hfz21_1, hfz21_2, hfz21_3, hfz21_4, hfz21_5, hfz21_6, hfz21_7, hfz21_8, hfz21_9, hfz21_10, hfz21_11, hfz21_12, hfz21_13, hfz21_14, hfz21_15⟩ := frozen16 BK536.out))
        go_meet
        case rel => exact ⟨_, H', ⟨by have := HJ2.out; first | omega | exact Nat.le_refl _⟩, ⟨by (with_reducible repeat (first | refine blk_drewN ?_ _ | refine blk_drew ?_ | refine blk_alloc ?_ _ | refine blk_far ?_ NB536_556.out _)); exact BK536.out⟩, ⟨by repeat (first | (with_reducible first | exact HB.out | apply below_alloc | apply pw_below_drewN | apply below_drew1 | refine below_set ?_ GE536.out | refine below_set ?_ GE556.out) | exact HB.out)⟩⟩
      ·rw [if_neg c15] at H
       exact absurd H (by simp)
     ·rw [if_neg c13] at H
      exact absurd H (by simp)
    ·rw [if_neg c12] at H
     have c12b0 : (t538 == 0) = false := beq_eq_false_iff_ne.mpr c12
     have c12b1 : (t538 != 0) = true := bne_iff_ne.mpr c12
     (first | rw [c12b0] | (simp only [i64_w, i32_w]; rw [c12b0]) | skip)
     have H' := Aside0.mk H
     clear H
     go_wp2_with (first | ((with_reducible refine gate_st (ty := 24) rfl ?_); (try (with_reducible refine gate_gd rfl ?_; refine gate_guard (by first | rfl | exact wanted_on rfl rfl rfl (by first | rfl | (simp [*]; done))) ?_; dsimp only)); refine storeC16 rfl rfl rfl rfl rfl (by repeat (first | (with_reducible apply blk_far; case hp => assumption) | (with_reducible apply blk_set) | (with_reducible refine blk_drewN ?_ _) | (with_reducible refine blk_drew ?_) | (with_reducible refine blk_alloc ?_ _) | (first | with_reducible exact BK536.out | with_reducible exact BK556.out | with_reducible exact BK574.out | with_reducible exact BK595.out))) (by first | (simp only [List.setIfInBounds_toArray, List.set_cons_zero, List.set_cons_succ] <;> rfl) | rfl) (by kernel_rfl) rfl ?_) | ((with_reducible refine gate_ld (ty := 24) rfl ?_); (try (with_reducible refine gate_gd rfl ?_; refine gate_guard (by first | rfl | exact wanted_on rfl rfl rfl (by first | rfl | (simp [*]; done))) ?_; dsimp only)); refine load_st rfl rfl rfl (by repeat (first | (with_reducible apply blk_far; case hp => assumption) | (with_reducible apply blk_set) | (with_reducible refine blk_drewN ?_ _) | (with_reducible refine blk_drew ?_) | (with_reducible refine blk_alloc ?_ _) | (first | with_reducible exact BK536.out | with_reducible exact BK556.out | with_reducible exact BK574.out | with_reducible exact BK595.out))) (by first | (simp only [List.setIfInBounds_toArray, List.set_cons_zero, List.set_cons_succ] <;> rfl) | rfl) Tryd.underlying24 rfl (by kernel_rfl) ?_; (try simp only [Act.put, List.setIfInBounds_toArray, List.set_cons_zero, List.set_cons_succ])) | ((with_reducible refine gate_eql (ty := 24) rfl ?_); (try (with_reducible refine gate_gd rfl ?_; refine gate_guard (by first | rfl | exact wanted_on rfl rfl rfl (by first | rfl | (simp [*]; done))) ?_; dsimp only)); refine eql24 rfl rfl rfl rfl true (by first | exact c16b0 | (simpa using c16b0) | exact c30b0 | (simpa using c30b0) | exact c48b0 | (simpa using c48b0)) ?_; (try simp only [Act.put, List.setIfInBounds_toArray, List.set_cons_zero, List.set_cons_succ])) | ((with_reducible refine gate_neq (ty := 24) rfl ?_); (try (with_reducible refine gate_gd rfl ?_; refine gate_guard (by first | rfl | exact wanted_on rfl rfl rfl (by first | rfl | (simp [*]; done))) ?_; dsimp only)); refine neql24 rfl rfl rfl rfl true (by first | exact c16b0 | (simpa using c16b0) | exact c30b0 | (simpa using c30b0) | exact c48b0 | (simpa using c48b0)) ?_; (try simp only [Act.put, List.setIfInBounds_toArray, List.set_cons_zero, List.set_cons_succ])) | ((with_reducible refine gate_eql (ty := 24) rfl ?_); (try (with_reducible refine gate_gd rfl ?_; refine gate_guard (by first | rfl | exact wanted_on rfl rfl rfl (by first | rfl | (simp [*]; done))) ?_; dsimp only)); refine eql24 rfl rfl rfl rfl false (by first | exact c16b0 | (simpa using c16b0) | exact c30b0 | (simpa using c30b0) | exact c48b0 | (simpa using c48b0)) ?_; (try simp only [Act.put, List.setIfInBounds_toArray, List.set_cons_zero, List.set_cons_succ])) | ((with_reducible refine gate_neq (ty := 24) rfl ?_); (try (with_reducible refine gate_gd rfl ?_; refine gate_guard (by first | rfl | exact wanted_on rfl rfl rfl (by first | rfl | (simp [*]; done))) ?_; dsimp only)); refine neql24 rfl rfl rfl rfl false (by first | exact c16b0 | (simpa using c16b0) | exact c30b0 | (simpa using c30b0) | exact c48b0 | (simpa using c48b0)) ?_; (try simp only [Act.put, List.setIfInBounds_toArray, List.set_cons_zero, List.set_cons_succ])) | go_in)
     go_meet
     case rel => exact ⟨_, H', ⟨by have := HJ2.out; first | omega | exact Nat.le_refl _⟩, ⟨by (with_reducible repeat (first | refine blk_drewN ?_ _ | refine blk_drew ?_ | refine blk_alloc ?_ _)); exact BK536.out⟩, ⟨by repeat (first | (with_reducible first | exact HB.out | apply below_alloc | apply pw_below_drewN | apply below_drew1 | refine below_set ?_ GE536.out) | exact HB.out)⟩⟩
   case rest =>
    clear HC9
    try clear c1
    try clear p2
    try clear c6
    try clear c6b0
    try clear c6b1
    try clear c7
    try clear c7b0
    try clear c7b1
    try clear c8
    try clear c12
    try clear c12b0
    try clear c12b1
    try clear c13
    try clear c13b0
    try clear c13b1
    try clear c13b2
    try clear c15
    try clear c15b0
    try clear c15b1
    try clear c16
    try clear c16b0
    try clear c19
    try clear hcz10_0
    try clear hcz10_1
    try clear hcz10_10
    try clear hcz10_11
    try clear hcz10_12
    try clear hcz10_13
    try clear hcz10_14
    try clear hcz10_15
    try clear hcz10_2
    try clear hcz10_3
    try clear hcz10_4
    try clear hcz10_5
    try clear hcz10_6
    try clear hcz10_7
    try clear hcz10_8
    try clear hcz10_9
    try clear hcz20_0
    try clear hcz20_1
    try clear hcz20_10
    try clear hcz20_11
    try clear hcz20_12
    try clear hcz20_13
    try clear hcz20_14
    try clear hcz20_15
    try clear hcz20_2
    try clear hcz20_3
    try clear hcz20_4
    try clear hcz20_5
    try clear hcz20_6
    try clear hcz20_7
    try clear hcz20_8
    try clear hcz20_9
    try clear hcz21_0
    try clear hcz21_1
    try clear hcz21_10
    try clear hcz21_11
    try clear hcz21_12
    try clear hcz21_13
    try clear hcz21_14
    try clear hcz21_15
    try clear hcz21_2
    try clear hcz21_3
    try clear hcz21_4
    try clear hcz21_5
    try clear hcz21_6
    try clear hcz21_7
    try clear hcz21_8
    try clear hcz21_9
    try clear hfz10_0
    try clear hfz10_1
    try clear hfz10_10
    try clear hfz10_11
    try clear hfz10_12
    try clear hfz10_13
    try clear hfz10_14
    try clear hfz10_15
    try clear hfz10_2
    try clear hfz10_3
    try clear hfz10_4
    try clear hfz10_5
    try clear hfz10_6
    try clear hfz10_7
    try clear hfz10_8
    try clear hfz10_9
    try clear hfz20_0
    try clear hfz20_1
    try clear hfz20_10
    try clear hfz20_11
    try clear hfz20_12
    try clear hfz20_13
    try clear hfz20_14
    try clear hfz20_15
    try clear hfz20_2
    try clear hfz20_3
    try clear hfz20_4
    try clear hfz20_5
    try clear hfz20_6
    try clear hfz20_7
    try clear hfz20_8
    try clear hfz20_9
    try clear hfz21_0
    try clear hfz21_1
    try clear hfz21_10
    try clear hfz21_11
    try clear hfz21_12
    try clear hfz21_13
    try clear hfz21_14
    try clear hfz21_15
    try clear hfz21_2
    try clear hfz21_3
    try clear hfz21_4
    try clear hfz21_5
    try clear hfz21_6
    try clear hfz21_7
    try clear hfz21_8
    try clear hfz21_9
    try clear p2
    obtain ⟨kq, HA, HJ8, BK536, HB⟩ := hcut
    cases kq with
    | zero => exact absurd HA.out (by simp [gangwaylaw09_BpduBack.j1])
    | succ kj8 =>
     have H := HA.out
     clear HA
     simp only [gangwaylaw09_BpduBack.j1] at H
     replace H := Option.bind_eq_some_iff.mp H
     obtain ⟨⟨t557, t558, t559, t560, t561, t562, t563, t564, t565, t566, t567, t568, t569, t570, t571, t572, t573⟩, A220, H⟩ := H
     replace H : (if t573 = 0 then ((bpdu_Build.f kj8 t557 t558 t559 t560 t561 t562 t563 t564 t565 t566 t567 t568 t569 t570 t571 t572).bind fun bt576 => ((bpdu_Parse.f kj8 bt576.1).bind fun bt578 => ((bpdu_Check.f kj8 t557 t558 t559 t560 t561 t562 t563 t564 t565 t566 t567 t568 t569 t570 t571 t572).bind fun t596 => (if t596 = 0 then (if bt576.2 = 0 then (if bt578.2.2.2.2.2.2.2.2.2.2.2.2.2.2.2.2 = 0 then (if (bt578.1 == t557 && (bt578.2.1 == t558 && (bt578.2.2.1 == t559 && (bt578.2.2.2.1 == t560 && (bt578.2.2.2.2.1 == t561 && (bt578.2.2.2.2.2.1 == t562 && (bt578.2.2.2.2.2.2.1 == t563 && (bt578.2.2.2.2.2.2.2.1 == t564 && (bt578.2.2.2.2.2.2.2.2.1 == t565 && (bt578.2.2.2.2.2.2.2.2.2.1 == t566 && (bt578.2.2.2.2.2.2.2.2.2.2.1 == t567 && (bt578.2.2.2.2.2.2.2.2.2.2.2.1 == t568 && (bt578.2.2.2.2.2.2.2.2.2.2.2.2.1 == t569 && (bt578.2.2.2.2.2.2.2.2.2.2.2.2.2.1 == t570 && (bt578.2.2.2.2.2.2.2.2.2.2.2.2.2.2.1 == t571 && (bt578.2.2.2.2.2.2.2.2.2.2.2.2.2.2.2.1 == t572)))))))))))))))) = true then (if (bt576.1.size : Int) ≤ (x1_2.size : Int) then ((gangwaylaw09_fixed.f kj8).bind fun t597 => (some t597)) else (none)) else (none)) else (none)) else (none)) else (none))))) else (if (t557 == 0 && (!t558 && (!t559 && (!t560 && (!t561 && (!t562 && (!t563 && (t564 == 0 && (t565 == 0 && (t566 == 0 && (t567 == 0 && (t568 == 0 && (t569 == 0 && (t570 == 0 && (t571 == 0 && (t572 == 0)))))))))))))))) = true then ((gangwaylaw09_fixed.f kj8).bind fun t575 => (some t575)) else (none))) = some r := H
     have A22 := Aside0.mk A220
     clear A220
     by_cases c23 : t573 = 0
     ·rw [if_pos c23] at H
      have c23b0 : (t573 == 0) = true := beq_iff_eq.mpr c23
      have c23b1 : (t573 != 0) = false := bne_eq_false_iff_eq.mpr c23
      clear c23
      replace H := Option.bind_eq_some_iff.mp H
      obtain ⟨⟨t576, t577⟩, A240, H⟩ := H
      replace H : ((bpdu_Parse.f kj8 t576).bind fun bt578 => ((bpdu_Check.f kj8 t557 t558 t559 t560 t561 t562 t563 t564 t565 t566 t567 t568 t569 t570 t571 t572).bind fun t596 => (if t596 = 0 then (if t577 = 0 then (if bt578.2.2.2.2.2.2.2.2.2.2.2.2.2.2.2.2 = 0 then (if (bt578.1 == t557 && (bt578.2.1 == t558 && (bt578.2.2.1 == t559 && (bt578.2.2.2.1 == t560 && (bt578.2.2.2.2.1 == t561 && (bt578.2.2.2.2.2.1 == t562 && (bt578.2.2.2.2.2.2.1 == t563 && (bt578.2.2.2.2.2.2.2.1 == t564 && (bt578.2.2.2.2.2.2.2.2.1 == t565 && (bt578.2.2.2.2.2.2.2.2.2.1 == t566 && (bt578.2.2.2.2.2.2.2.2.2.2.1 == t567 && (bt578.2.2.2.2.2.2.2.2.2.2.2.1 == t568 && (bt578.2.2.2.2.2.2.2.2.2.2.2.2.1 == t569 && (bt578.2.2.2.2.2.2.2.2.2.2.2.2.2.1 == t570 && (bt578.2.2.2.2.2.2.2.2.2.2.2.2.2.2.1 == t571 && (bt578.2.2.2.2.2.2.2.2.2.2.2.2.2.2.2.1 == t572)))))))))))))))) = true then (if (t576.size : Int) ≤ (x1_2.size : Int) then ((gangwaylaw09_fixed.f kj8).bind fun t597 => (some t597)) else (none)) else (none)) else (none)) else (none)) else (none)))) = some r := H
      have A24 := Aside0.mk A240
      clear A240
      replace H := Option.bind_eq_some_iff.mp H
      obtain ⟨⟨t578, t579, t580, t581, t582, t583, t584, t585, t586, t587, t588, t589, t590, t591, t592, t593, t594⟩, A250, H⟩ := H
      replace H : ((bpdu_Check.f kj8 t557 t558 t559 t560 t561 t562 t563 t564 t565 t566 t567 t568 t569 t570 t571 t572).bind fun t596 => (if t596 = 0 then (if t577 = 0 then (if t594 = 0 then (if (t578 == t557 && (t579 == t558 && (t580 == t559 && (t581 == t560 && (t582 == t561 && (t583 == t562 && (t584 == t563 && (t585 == t564 && (t586 == t565 && (t587 == t566 && (t588 == t567 && (t589 == t568 && (t590 == t569 && (t591 == t570 && (t592 == t571 && (t593 == t572)))))))))))))))) = true then (if (t576.size : Int) ≤ (x1_2.size : Int) then ((gangwaylaw09_fixed.f kj8).bind fun t597 => (some t597)) else (none)) else (none)) else (none)) else (none)) else (none))) = some r := H
      have A25 := Aside0.mk A250
      clear A250
      replace H := Option.bind_eq_some_iff.mp H
      obtain ⟨t596, A260, H⟩ := H
      replace H : (if t596 = 0 then (if t577 = 0 then (if t594 = 0 then (if (t578 == t557 && (t579 == t558 && (t580 == t559 && (t581 == t560 && (t582 == t561 && (t583 == t562 && (t584 == t563 && (t585 == t564 && (t586 == t565 && (t587 == t566 && (t588 == t567 && (t589 == t568 && (t590 == t569 && (t591 == t570 && (t592 == t571 && (t593 == t572)))))))))))))))) = true then (if (t576.size : Int) ≤ (x1_2.size : Int) then ((gangwaylaw09_fixed.f kj8).bind fun t597 => (some t597)) else (none)) else (none)) else (none)) else (none)) else (none)) = some r := H
      have A26 := Aside0.mk A260
      clear A260
      by_cases c27 : t596 = 0
      ·rw [if_pos c27] at H
       have c27b0 : (t596 == 0) = true := beq_iff_eq.mpr c27
       have c27b1 : (t596 != 0) = false := bne_eq_false_iff_eq.mpr c27
       clear c27
       by_cases c28 : t577 = 0
       ·rw [if_pos c28] at H
        have c28b0 : (t577 == 0) = true := beq_iff_eq.mpr c28
        have c28b1 : (t577 != 0) = false := bne_eq_false_iff_eq.mpr c28
        clear c28
        by_cases c29 : t594 = 0
        ·rw [if_pos c29] at H
         have c29b0 : (t594 == 0) = true := beq_iff_eq.mpr c29
         have c29b1 : (t594 != 0) = false := bne_eq_false_iff_eq.mpr c29
         clear c29
         by_cases c30 : (t578 == t557 && (t579 == t558 && (t580 == t559 && (t581 == t560 && (t582 == t561 && (t583 == t562 && (t584 == t563 && (t585 == t564 && (t586 == t565 && (t587 == t566 && (t588 == t567 && (t589 == t568 && (t590 == t569 && (t591 == t570 && (t592 == t571 && (t593 == t572)))))))))))))))) = true
         ·rw [if_pos c30] at H
          have c30b0 : (t578 == t557 && (t579 == t558 && (t580 == t559 && (t581 == t560 && (t582 == t561 && (t583 == t562 && (t584 == t563 && (t585 == t564 && (t586 == t565 && (t587 == t566 && (t588 == t567 && (t589 == t568 && (t590 == t569 && (t591 == t570 && (t592 == t571 && (t593 == t572)))))))))))))))) = true := c30
          clear c30
          by_cases c31 : (t576.size : Int) ≤ (x1_2.size : Int)
          ·rw [if_pos c31] at H
           have c31b0 : decide ((t576.size : Int) ≤ (x1_2.size : Int)) = true := decide_eq_true c31
           have c31b1 : decide (t576.size ≤ x1_2.size) = true := decide_eq_true (Int.ofNat_le.mp c31)
           clear c31
           replace H := Option.bind_eq_some_iff.mp H
           obtain ⟨t597, A320, H⟩ := H
           replace H : (some t597) = some r := H
           have A32 := Aside0.mk A320
           clear A320
           obtain rfl := Option.some.inj H
           go_wp2_with (first | ((with_reducible refine gate_st (ty := 24) rfl ?_); (try (with_reducible refine gate_gd rfl ?_; refine gate_guard (by first | rfl | exact wanted_on rfl rfl rfl (by first | rfl | (simp [*]; done))) ?_; dsimp only)); refine storeC16 rfl rfl rfl rfl rfl (by repeat (first | (with_reducible apply blk_far; case hp => assumption) | (with_reducible apply blk_set) | (with_reducible refine blk_drewN ?_ _) | (with_reducible refine blk_drew ?_) | (with_reducible refine blk_alloc ?_ _) | (first | with_reducible exact BK536.out | with_reducible exact BK556.out | with_reducible exact BK574.out | with_reducible exact BK595.out))) (by first | (simp only [List.setIfInBounds_toArray, List.set_cons_zero, List.set_cons_succ] <;> rfl) | rfl) (by kernel_rfl) rfl ?_) | ((with_reducible refine gate_ld (ty := 24) rfl ?_); (try (with_reducible refine gate_gd rfl ?_; refine gate_guard (by first | rfl | exact wanted_on rfl rfl rfl (by first | rfl | (simp [*]; done))) ?_; dsimp only)); refine load_st rfl rfl rfl (by repeat (first | (with_reducible apply blk_far; case hp => assumption) | (with_reducible apply blk_set) | (with_reducible refine blk_drewN ?_ _) | (with_reducible refine blk_drew ?_) | (with_reducible refine blk_alloc ?_ _) | (first | with_reducible exact BK536.out | with_reducible exact BK556.out | with_reducible exact BK574.out | with_reducible exact BK595.out))) (by first | (simp only [List.setIfInBounds_toArray, List.set_cons_zero, List.set_cons_succ] <;> rfl) | rfl) Tryd.underlying24 rfl (by kernel_rfl) ?_; (try simp only [Act.put, List.setIfInBounds_toArray, List.set_cons_zero, List.set_cons_succ])) | ((with_reducible refine gate_eql (ty := 24) rfl ?_); (try (with_reducible refine gate_gd rfl ?_; refine gate_guard (by first | rfl | exact wanted_on rfl rfl rfl (by first | rfl | (simp [*]; done))) ?_; dsimp only)); refine eql24 rfl rfl rfl rfl true (by first | exact c16b0 | (simpa using c16b0) | exact c30b0 | (simpa using c30b0) | exact c48b0 | (simpa using c48b0)) ?_; (try simp only [Act.put, List.setIfInBounds_toArray, List.set_cons_zero, List.set_cons_succ])) | ((with_reducible refine gate_neq (ty := 24) rfl ?_); (try (with_reducible refine gate_gd rfl ?_; refine gate_guard (by first | rfl | exact wanted_on rfl rfl rfl (by first | rfl | (simp [*]; done))) ?_; dsimp only)); refine neql24 rfl rfl rfl rfl true (by first | exact c16b0 | (simpa using c16b0) | exact c30b0 | (simpa using c30b0) | exact c48b0 | (simpa using c48b0)) ?_; (try simp only [Act.put, List.setIfInBounds_toArray, List.set_cons_zero, List.set_cons_succ])) | ((with_reducible refine gate_eql (ty := 24) rfl ?_); (try (with_reducible refine gate_gd rfl ?_; refine gate_guard (by first | rfl | exact wanted_on rfl rfl rfl (by first | rfl | (simp [*]; done))) ?_; dsimp only)); refine eql24 rfl rfl rfl rfl false (by first | exact c16b0 | (simpa using c16b0) | exact c30b0 | (simpa using c30b0) | exact c48b0 | (simpa using c48b0)) ?_; (try simp only [Act.put, List.setIfInBounds_toArray, List.set_cons_zero, List.set_cons_succ])) | ((with_reducible refine gate_neq (ty := 24) rfl ?_); (try (with_reducible refine gate_gd rfl ?_; refine gate_guard (by first | rfl | exact wanted_on rfl rfl rfl (by first | rfl | (simp [*]; done))) ?_; dsimp only)); refine neql24 rfl rfl rfl rfl false (by first | exact c16b0 | (simpa using c16b0) | exact c30b0 | (simpa using c30b0) | exact c48b0 | (simpa using c48b0)) ?_; (try simp only [Act.put, List.setIfInBounds_toArray, List.set_cons_zero, List.set_cons_succ])) | ((with_reducible refine gate_callee (f := 13) rfl ?_); refine goesL_ (some 43) rfl rfl Tryd.func13 (by kernel_rfl) rfl #[.string x1_2] rfl (by (try simp only [List.map_toArray, List.map_cons, List.map_nil]); first | done | rfl | (simp only [List.length_drop, List.length_take]; rfl)) ?_; (with_reducible refine (bpdu_Parse.calls kj8 x1_2 t557 t558 t559 t560 t561 t562 t563 t564 t565 t566 t567 t568 t569 t570 t571 t572 t573 _ A22.out).mono ?_); rintro e w33 ⟨rfl, hb⟩; refine ⟨_, rfl, ?_⟩; have n0_ := Aside0.mk (blk_below (g := gb536) (by (with_reducible repeat (first | refine blk_drewN ?_ _ | refine blk_drew ?_ | refine blk_alloc ?_ _)); exact BK536.out) hb); have n1_ := Aside0.mk (below_step (by repeat (first | (with_reducible first | exact HB.out | apply below_alloc | apply pw_below_drewN | apply below_drew1 | refine below_set ?_ GE536.out) | exact HB.out)) hb); clear BK536; clear HB; have BK536 := n0_; have HB := n1_; clear n0_ n1_; obtain ⟨hcy1_536_0, hcy1_536_1, hcy1_536_2, hcy1_536_3, hcy1_536_4, hcy1_536_5, hcy1_536_6, hcy1_536_7, hcy1_536_8, hcy1_536_9, hcy1_536_10, hcy1_536_11, hcy1_536_12, hcy1_536_13, hcy1_536_14, hcy1_536_15⟩ := cells16 BK536.out; (try clear hb); (try clear hb2); (try clear hk); (try clear hi)) | ((with_reducible refine gate_dst (N := 9) rfl ?_); (try (refine gate_guard (by rfl) ?_; dsimp only)); refine box_event ?hg (N := 9) ?hd (cs := #[.int .i64 0, .bool false, .bool false, .bool false, .bool false, .bool false, .bool false, .int .i64 0, .int .u64 0, .int .i64 0, .int .u64 0, .int .i64 0, .int .i64 0, .int .i64 0, .int .i64 0, .int .i64 0]) (t := 24) ?hr ?_; (case hd => rfl); (case hg => rfl); (case hr => first | (go_simp; done) | (go_simp; rfl)); intro gb574 hg w34 hbox hb; have n0_ := Aside0.mk (blk_below (g := gb536) (by (with_reducible repeat (first | refine blk_drewN ?_ _ | refine blk_drew ?_ | refine blk_alloc ?_ _)); exact BK536.out) hb); have n1_ := Aside0.mk (below_step (by repeat (first | (with_reducible first | exact HB.out | apply below_alloc | apply pw_below_drewN | apply below_drew1 | refine below_set ?_ GE536.out) | exact HB.out)) hb); have n2_ := Aside0.mk (hbox); have n3_ := Aside0.mk ((by rw [hg]; exact (below_size (by repeat (first | (with_reducible first | exact HB.out | apply below_alloc | apply pw_below_drewN | apply below_drew1 | refine below_set ?_ GE536.out) | exact HB.out))) : w.heap.size ≤ gb574)); have n4_ := Aside0.mk ((by rw [hg]; exact (below_size (by repeat (first | (with_reducible first | exact HB.out | apply below_alloc | apply pw_below_drewN | apply below_drew1 | refine below_set ?_ GE536.out) | exact HB.out))) : w.heap.size ≤ gb574)); have n5_ := Aside0.mk ((by rw [hg]; exact Nat.ne_of_lt (blk_lt (g := gb536) (by (with_reducible repeat (first | refine blk_drewN ?_ _ | refine blk_drew ?_ | refine blk_alloc ?_ _)); exact BK536.out)) : gb536 ≠ gb574)); have n6_ := Aside0.mk ((by rw [hg]; exact Nat.ne_of_gt (blk_lt (g := gb536) (by (with_reducible repeat (first | refine blk_drewN ?_ _ | refine blk_drew ?_ | refine blk_alloc ?_ _)); exact BK536.out)) : gb574 ≠ gb536)); clear BK536; clear HB; have BK536 := n0_; have HB := n1_; have BK574 := n2_; have GW574 := n3_; have GE574 := n4_; have NB536_574 := n5_; have NB574_536 := n6_; clear n0_ n1_ n2_ n3_ n4_ n5_ n6_; obtain ⟨hcy2_536_0, hcy2_536_1, hcy2_536_2, hcy2_536_3, hcy2_536_4, hcy2_536_5, hcy2_536_6, hcy2_536_7, hcy2_536_8, hcy2_536_9, hcy2_536_10, hcy2_536_11, hcy2_536_12, hcy2_536_13, hcy2_536_14, hcy2_536_15⟩ := cells16 BK536.out; clear hb hbox hg; have hnb35 := NB574_536.out; have hnc35 := NB536_574.out; obtain ⟨hcz36_0, hcz36_1, hcz36_2, hcz36_3, hcz36_4, hcz36_5, hcz36_6, hcz36_7, hcz36_8, hcz36_9, hcz36_10, hcz36_11, hcz36_12, hcz36_13, hcz36_14, hcz36_15⟩ := cells16 BK574.out; obtain ⟨hfz36_0, hfz36_1, hfz36_2, hfz36_3, hfz36_4, hfz36_5, hfz36_6, hfz36_7, hfz36_8, hfz36_9, hfz36_10, hfz36_11, hfz36_12, hfz36_13, hfz36_14, hfz36_15⟩ := frozen16 BK574.out) | ((with_reducible refine gate_callee (f := 8) rfl ?_); refine goesL_ (some 56) rfl rfl Tryd.func8 (by kernel_rfl) rfl #[.agg #[.int .i64 t557, .bool t558, .bool t559, .bool t560, .bool t561, .bool t562, .bool t563, .int .i64 t564, .int .u64 t565, .int .i64 t566, .int .u64 t567, .int .i64 t568, .int .i64 t569, .int .i64 t570, .int .i64 t571, .int .i64 t572]] rfl (by (try simp only [List.map_toArray, List.map_cons, List.map_nil]); first | done | rfl | (simp only [List.length_drop, List.length_take]; rfl)) ?_; (with_reducible refine (bpdu_Build.calls kj8 t557 t558 t559 t560 t561 t562 t563 t564 t565 t566 t567 t568 t569 t570 t571 t572 t576 t577 _ A24.out).mono ?_); rintro e w37 ⟨rfl, hb⟩; refine ⟨_, rfl, ?_⟩; have n0_ := Aside0.mk (blk_below (g := gb536) (o := .cells #[.int .i64 a0_0, .bool a0_1, .bool a0_2, .bool a0_3, .bool a0_4, .bool a0_5, .bool a0_6, .int .i64 a0_7, .int .u64 a0_8, .int .i64 a0_9, .int .u64 a0_10, .int .i64 a0_11, .int .i64 a0_12, .int .i64 a0_13, .int .i64 a0_14, .int .i64 a0_15] 24 (0, 0)) (by (with_reducible repeat (first | refine blk_drewN ?_ _ | refine blk_drew ?_ | refine blk_alloc ?_ _ | refine blk_far ?_ NB536_574.out _)); exact BK536.out) hb); have n1_ := Aside0.mk (blk_below (g := gb574) (o := .cells #[.int .i64 t557, .bool t558, .bool t559, .bool t560, .bool t561, .bool t562, .bool t563, .int .i64 t564, .int .u64 t565, .int .i64 t566, .int .u64 t567, .int .i64 t568, .int .i64 t569, .int .i64 t570, .int .i64 t571, .int .i64 t572] 24 (0, 0)) (by (with_reducible repeat (first | refine blk_drewN ?_ _ | refine blk_drew ?_ | refine blk_alloc ?_ _)); exact put16_0_16 (by (with_reducible repeat (first | refine blk_drewN ?_ _ | refine blk_drew ?_ | refine blk_alloc ?_ _)); exact BK574.out)) hb); have n2_ := Aside0.mk (below_step (by repeat (first | (with_reducible first | exact HB.out | apply below_alloc | apply pw_below_drewN | apply below_drew1 | refine below_set ?_ GE536.out | refine below_set ?_ GE574.out) | exact HB.out)) hb); clear BK536; clear BK574; clear HB; have BK536 := n0_; have BK574 := n1_; have HB := n2_; clear n0_ n1_ n2_; obtain ⟨hcy3_536_0, hcy3_536_1, hcy3_536_2, hcy3_536_3, hcy3_536_4, hcy3_536_5, hcy3_536_6, hcy3_536_7, hcy3_536_8, hcy3_536_9, hcy3_536_10, hcy3_536_11, hcy3_536_12, hcy3_536_13, hcy3_536_14, hcy3_536_15⟩ := cells16 BK536.out; (try clear hb); (try clear hb2); (try clear hk); (try clear hi)) | ((with_reducible refine gate_callee (f := 13) rfl ?_); refine goesL_ (some 61) rfl rfl Tryd.func13 (by kernel_rfl) rfl #[.string t576] rfl (by (try simp only [List.map_toArray, List.map_cons, List.map_nil]); first | done | rfl | (simp only [List.length_drop, List.length_take]; rfl)) ?_; (with_reducible refine (bpdu_Parse.calls kj8 t576 t578 t579 t580 t581 t582 t583 t584 t585 t586 t587 t588 t589 t590 t591 t592 t593 t594 _ A25.out).mono ?_); rintro e w38 ⟨rfl, hb⟩; refine ⟨_, rfl, ?_⟩; have n0_ := Aside0.mk (blk_below (g := gb536) (by (with_reducible repeat (first | refine blk_drewN ?_ _ | refine blk_drew ?_ | refine blk_alloc ?_ _)); exact BK536.out) hb); have n1_ := Aside0.mk (blk_below (g := gb574) (by (with_reducible repeat (first | refine blk_drewN ?_ _ | refine blk_drew ?_ | refine blk_alloc ?_ _)); exact BK574.out) hb); have n2_ := Aside0.mk (below_step (by repeat (first | (with_reducible first | exact HB.out | apply below_alloc | apply pw_below_drewN | apply below_drew1 | refine below_set ?_ GE536.out | refine below_set ?_ GE574.out) | exact HB.out)) hb); clear BK536; clear BK574; clear HB; have BK536 := n0_; have BK574 := n1_; have HB := n2_; clear n0_ n1_ n2_; obtain ⟨hcy4_536_0, hcy4_536_1, hcy4_536_2, hcy4_536_3, hcy4_536_4, hcy4_536_5, hcy4_536_6, hcy4_536_7, hcy4_536_8, hcy4_536_9, hcy4_536_10, hcy4_536_11, hcy4_536_12, hcy4_536_13, hcy4_536_14, hcy4_536_15⟩ := cells16 BK536.out; (try clear hb); (try clear hb2); (try clear hk); (try clear hi)) | ((with_reducible refine gate_dst (N := 13) rfl ?_); (try (refine gate_guard (by rfl) ?_; dsimp only)); refine box_event ?hg (N := 13) ?hd (cs := #[.int .i64 0, .bool false, .bool false, .bool false, .bool false, .bool false, .bool false, .int .i64 0, .int .u64 0, .int .i64 0, .int .u64 0, .int .i64 0, .int .i64 0, .int .i64 0, .int .i64 0, .int .i64 0]) (t := 24) ?hr ?_; (case hd => rfl); (case hg => rfl); (case hr => first | (go_simp; done) | (go_simp; rfl)); intro gb595 hg w39 hbox hb; have n0_ := Aside0.mk (blk_below (g := gb536) (by (with_reducible repeat (first | refine blk_drewN ?_ _ | refine blk_drew ?_ | refine blk_alloc ?_ _)); exact BK536.out) hb); have n1_ := Aside0.mk (blk_below (g := gb574) (by (with_reducible repeat (first | refine blk_drewN ?_ _ | refine blk_drew ?_ | refine blk_alloc ?_ _)); exact BK574.out) hb); have n2_ := Aside0.mk (below_step (by repeat (first | (with_reducible first | exact HB.out | apply below_alloc | apply pw_below_drewN | apply below_drew1 | refine below_set ?_ GE536.out | refine below_set ?_ GE574.out) | exact HB.out)) hb); have n3_ := Aside0.mk (hbox); have n4_ := Aside0.mk ((by rw [hg]; exact (below_size (by repeat (first | (with_reducible first | exact HB.out | apply below_alloc | apply pw_below_drewN | apply below_drew1 | refine below_set ?_ GE536.out | refine below_set ?_ GE574.out) | exact HB.out))) : w.heap.size ≤ gb595)); have n5_ := Aside0.mk ((by rw [hg]; exact (below_size (by repeat (first | (with_reducible first | exact HB.out | apply below_alloc | apply pw_below_drewN | apply below_drew1 | refine below_set ?_ GE536.out | refine below_set ?_ GE574.out) | exact HB.out))) : w.heap.size ≤ gb595)); have n6_ := Aside0.mk ((by rw [hg]; exact Nat.ne_of_lt (blk_lt (g := gb536) (by (with_reducible repeat (first | refine blk_drewN ?_ _ | refine blk_drew ?_ | refine blk_alloc ?_ _)); exact BK536.out)) : gb536 ≠ gb595)); have n7_ := Aside0.mk ((by rw [hg]; exact Nat.ne_of_gt (blk_lt (g := gb536) (by (with_reducible repeat (first | refine blk_drewN ?_ _ | refine blk_drew ?_ | refine blk_alloc ?_ _)); exact BK536.out)) : gb595 ≠ gb536)); have n8_ := Aside0.mk ((by rw [hg]; exact Nat.ne_of_lt (blk_lt (g := gb574) (by (with_reducible repeat (first | refine blk_drewN ?_ _ | refine blk_drew ?_ | refine blk_alloc ?_ _)); exact BK574.out)) : gb574 ≠ gb595)); have n9_ := Aside0.mk ((by rw [hg]; exact Nat.ne_of_gt (blk_lt (g := gb574) (by (with_reducible repeat (first | refine blk_drewN ?_ _ | refine blk_drew ?_ | refine blk_alloc ?_ _)); exact BK574.out)) : gb595 ≠ gb574)); clear BK536; clear BK574; clear HB; have BK536 := n0_; have BK574 := n1_; have HB := n2_; have BK595 := n3_; have GW595 := n4_; have GE595 := n5_; have NB536_595 := n6_; have NB595_536 := n7_; have NB574_595 := n8_; have NB595_574 := n9_; clear n0_ n1_ n2_ n3_ n4_ n5_ n6_ n7_ n8_ n9_; obtain ⟨hcy5_536_0, hcy5_536_1, hcy5_536_2, hcy5_536_3, hcy5_536_4, hcy5_536_5, hcy5_536_6, hcy5_536_7, hcy5_536_8, hcy5_536_9, hcy5_536_10, hcy5_536_11, hcy5_536_12, hcy5_536_13, hcy5_536_14, hcy5_536_15⟩ := cells16 BK536.out; clear hb hbox hg; have hnb40 := NB595_536.out; have hnc40 := NB536_595.out; have hnb41 := NB595_574.out; have hnc41 := NB574_595.out; obtain ⟨hcz42_0, hcz42_1, hcz42_2, hcz42_3, hcz42_4, hcz42_5, hcz42_6, hcz42_7, hcz42_8, hcz42_9, hcz42_10, hcz42_11, hcz42_12, hcz42_13, hcz42_14, hcz42_15⟩ := cells16 BK595.out; obtain ⟨hfz42_0, hfz42_1, hfz42_2, hfz42_3, hfz42_4, hfz42_5, hfz42_6, hfz42_7, hfz42_8, hfz42_9, hfz42_10, hfz42_11, hfz42_12, hfz42_13, hfz42_14, hfz42_15⟩ := frozen16 BK595.out; obtain ⟨hcz43_0, hcz43_1, hcz43_2, hcz43_3, hcz43_4, hcz43_5, hcz43_6, hcz43_7, hcz43_8, hcz43_9, hcz43_10, hcz43_11, hcz43_12, hcz43_13, hcz43_14, hcz43_15⟩ := cells16 BK574.out; obtain ⟨hfz43_0, hfz43_1, hfz43_2, hfz43_3, hfz43_4, hfz43_5, hfz43_6, hfz43_7, hfz43_8, hfz43_9, hfz43_10, hfz43_11, hfz43_12, hfz43_13, hfz43_14, hfz43_15⟩ := frozen16 BK574.out) | ((with_reducible refine gate_callee (f := 11) rfl ?_); refine goesL_ (some 65) rfl rfl Tryd.func11 (by kernel_rfl) rfl #[.agg #[.int .i64 t557, .bool t558, .bool t559, .bool t560, .bool t561, .bool t562, .bool t563, .int .i64 t564, .int .u64 t565, .int .i64 t566, .int .u64 t567, .int .i64 t568, .int .i64 t569, .int .i64 t570, .int .i64 t571, .int .i64 t572]] rfl (by (try simp only [List.map_toArray, List.map_cons, List.map_nil]); first | done | rfl | (simp only [List.length_drop, List.length_take]; rfl)) ?_; (with_reducible refine (bpdu_Check.calls kj8 t557 t558 t559 t560 t561 t562 t563 t564 t565 t566 t567 t568 t569 t570 t571 t572 t596 _ A26.out).mono ?_); rintro e w44 ⟨rfl, hb⟩; refine ⟨_, rfl, ?_⟩; have n0_ := Aside0.mk (blk_below (g := gb536) (o := .cells #[.int .i64 a0_0, .bool a0_1, .bool a0_2, .bool a0_3, .bool a0_4, .bool a0_5, .bool a0_6, .int .i64 a0_7, .int .u64 a0_8, .int .i64 a0_9, .int .u64 a0_10, .int .i64 a0_11, .int .i64 a0_12, .int .i64 a0_13, .int .i64 a0_14, .int .i64 a0_15] 24 (0, 0)) (by (with_reducible repeat (first | refine blk_drewN ?_ _ | refine blk_drew ?_ | refine blk_alloc ?_ _ | refine blk_far ?_ NB536_595.out _)); exact BK536.out) hb); have n1_ := Aside0.mk (blk_below (g := gb574) (o := .cells #[.int .i64 t557, .bool t558, .bool t559, .bool t560, .bool t561, .bool t562, .bool t563, .int .i64 t564, .int .u64 t565, .int .i64 t566, .int .u64 t567, .int .i64 t568, .int .i64 t569, .int .i64 t570, .int .i64 t571, .int .i64 t572] 24 (0, 0)) (by (with_reducible repeat (first | refine blk_drewN ?_ _ | refine blk_drew ?_ | refine blk_alloc ?_ _ | refine blk_far ?_ NB574_595.out _)); exact BK574.out) hb); have n2_ := Aside0.mk (blk_below (g := gb595) (o := .cells #[.int .i64 t578, .bool t579, .bool t580, .bool t581, .bool t582, .bool t583, .bool t584, .int .i64 t585, .int .u64 t586, .int .i64 t587, .int .u64 t588, .int .i64 t589, .int .i64 t590, .int .i64 t591, .int .i64 t592, .int .i64 t593] 24 (0, 0)) (by (with_reducible repeat (first | refine blk_drewN ?_ _ | refine blk_drew ?_ | refine blk_alloc ?_ _)); exact put16_0_16 (by (with_reducible repeat (first | refine blk_drewN ?_ _ | refine blk_drew ?_ | refine blk_alloc ?_ _)); exact BK595.out)) hb); have n3_ := Aside0.mk (below_step (by repeat (first | (with_reducible first | exact HB.out | apply below_alloc | apply pw_below_drewN | apply below_drew1 | refine below_set ?_ GE536.out | refine below_set ?_ GE574.out | refine below_set ?_ GE595.out) | exact HB.out)) hb); clear BK536; clear BK574; clear BK595; clear HB; have BK536 := n0_; have BK574 := n1_; have BK595 := n2_; have HB := n3_; clear n0_ n1_ n2_ n3_; obtain ⟨hcy6_536_0, hcy6_536_1, hcy6_536_2, hcy6_536_3, hcy6_536_4, hcy6_536_5, hcy6_536_6, hcy6_536_7, hcy6_536_8, hcy6_536_9, hcy6_536_10, hcy6_536_11, hcy6_536_12, hcy6_536_13, hcy6_536_14, hcy6_536_15⟩ := cells16 BK536.out; (try clear hb); (try clear hb2); (try clear hk); (try clear hi); obtain ⟨hcz45_0, hcz45_1, hcz45_2, hcz45_3, hcz45_4, hcz45_5, hcz45_6, hcz45_7, hcz45_8, hcz45_9, hcz45_10, hcz45_11, hcz45_12, hcz45_13, hcz45_14, hcz45_15⟩ := cells16 BK595.out; obtain ⟨hfz45_0, hfz45_1, hfz45_2, hfz45_3, hfz45_4, hfz45_5, hfz45_6, hfz45_7, hfz45_8, hfz45_9, hfz45_10, hfz45_11, hfz45_12, hfz45_13, hfz45_14, hfz45_15⟩ := frozen16 BK595.out; obtain ⟨hcz46_0, hcz46_1, hcz46_2, hcz46_3, hcz46_4, hcz46_5, hcz46_6, hcz46_7, hcz46_8, hcz46_9, hcz46_10, hcz46_11, hcz46_12, hcz46_13, hcz46_14, hcz46_15⟩ := cells16 BK574.out; obtain ⟨hfz46_0, hfz46_1, hfz46_2, hfz46_3, hfz46_4, hfz46_5, hfz46_6, hfz46_7, hfz46_8, hfz46_9, hfz46_10, hfz46_11, hfz46_12, hfz46_13, hfz46_14, hfz46_15⟩ := frozen16 BK574.out) | (go_at_call 10; (with_reducible refine (gangwaylaw09_fixed.calls kj8  t597 _ A32.out).mono ?_); rintro e w47 ⟨rfl, hb⟩; have n0_ := Aside0.mk (blk_below (g := gb536) (by (with_reducible repeat (first | refine blk_drewN ?_ _ | refine blk_drew ?_ | refine blk_alloc ?_ _)); exact BK536.out) hb); have n1_ := Aside0.mk (blk_below (g := gb574) (by (with_reducible repeat (first | refine blk_drewN ?_ _ | refine blk_drew ?_ | refine blk_alloc ?_ _)); exact BK574.out) hb); have n2_ := Aside0.mk (blk_below (g := gb595) (by (with_reducible repeat (first | refine blk_drewN ?_ _ | refine blk_drew ?_ | refine blk_alloc ?_ _)); exact BK595.out) hb); have n3_ := Aside0.mk (below_step (by repeat (first | (with_reducible first | exact HB.out | apply below_alloc | apply pw_below_drewN | apply below_drew1 | refine below_set ?_ GE536.out | refine below_set ?_ GE574.out | refine below_set ?_ GE595.out) | exact HB.out)) hb); clear BK536; clear BK574; clear BK595; clear HB; have BK536 := n0_; have BK574 := n1_; have BK595 := n2_; have HB := n3_; clear n0_ n1_ n2_ n3_; obtain ⟨hcy7_536_0, hcy7_536_1, hcy7_536_2, hcy7_536_3, hcy7_536_4, hcy7_536_5, hcy7_536_6, hcy7_536_7, hcy7_536_8, hcy7_536_9, hcy7_536_10, hcy7_536_11, hcy7_536_12, hcy7_536_13, hcy7_536_14, hcy7_536_15⟩ := cells16 BK536.out; (try clear hb); (try clear hb2); (try clear hk); (try clear hi)))
           go_ret
           exact ⟨by first | rfl | (simp [errW_none, errW_some] <;> rfl) | (simp [*, errW_none, errW_some] <;> rfl) | (simp [*, IntKind.wrap_u32]; done) | (simp_all [IntKind.wrap_u32]; done), by repeat (first | (with_reducible first | exact HB.out | apply below_alloc | apply pw_below_drewN | apply below_drew1 | refine below_set ?_ GE536.out | refine below_set ?_ GE574.out | refine below_set ?_ GE595.out) | exact HB.out)⟩
          ·rw [if_neg c31] at H
           exact absurd H (by simp)
         ·rw [if_neg c30] at H
          exact absurd H (by simp)
        ·rw [if_neg c29] at H
         exact absurd H (by simp)
       ·rw [if_neg c28] at H
        exact absurd H (by simp)
      ·rw [if_neg c27] at H
       exact absurd H (by simp)
     ·rw [if_neg c23] at H
      have c23b0 : (t573 == 0) = false := beq_eq_false_iff_ne.mpr c23
      have c23b1 : (t573 != 0) = true := bne_iff_ne.mpr c23
      by_cases c48 : (t557 == 0 && (!t558 && (!t559 && (!t560 && (!t561 && (!t562 && (!t563 && (t564 == 0 && (t565 == 0 && (t566 == 0 && (t567 == 0 && (t568 == 0 && (t569 == 0 && (t570 == 0 && (t571 == 0 && (t572 == 0)))))))))))))))) = true
      ·rw [if_pos c48] at H
       have c48b0 : (t557 == 0 && (!t558 && (!t559 && (!t560 && (!t561 && (!t562 && (!t563 && (t564 == 0 && (t565 == 0 && (t566 == 0 && (t567 == 0 && (t568 == 0 && (t569 == 0 && (t570 == 0 && (t571 == 0 && (t572 == 0)))))))))))))))) = true := c48
       clear c48
       replace H := Option.bind_eq_some_iff.mp H
       obtain ⟨t575, A490, H⟩ := H
       replace H : (some t575) = some r := H
       have A49 := Aside0.mk A490
       clear A490
       obtain rfl := Option.some.inj H
       go_wp2_with (first | ((with_reducible refine gate_st (ty := 24) rfl ?_); (try (with_reducible refine gate_gd rfl ?_; refine gate_guard (by first | rfl | exact wanted_on rfl rfl rfl (by first | rfl | (simp [*]; done))) ?_; dsimp only)); refine storeC16 rfl rfl rfl rfl rfl (by repeat (first | (with_reducible apply blk_far; case hp => assumption) | (with_reducible apply blk_set) | (with_reducible refine blk_drewN ?_ _) | (with_reducible refine blk_drew ?_) | (with_reducible refine blk_alloc ?_ _) | (first | with_reducible exact BK536.out | with_reducible exact BK556.out | with_reducible exact BK574.out | with_reducible exact BK595.out))) (by first | (simp only [List.setIfInBounds_toArray, List.set_cons_zero, List.set_cons_succ] <;> rfl) | rfl) (by kernel_rfl) rfl ?_) | ((with_reducible refine gate_ld (ty := 24) rfl ?_); (try (with_reducible refine gate_gd rfl ?_; refine gate_guard (by first | rfl | exact wanted_on rfl rfl rfl (by first | rfl | (simp [*]; done))) ?_; dsimp only)); refine load_st rfl rfl rfl (by repeat (first | (with_reducible apply blk_far; case hp => assumption) | (with_reducible apply blk_set) | (with_reducible refine blk_drewN ?_ _) | (with_reducible refine blk_drew ?_) | (with_reducible refine blk_alloc ?_ _) | (first | with_reducible exact BK536.out | with_reducible exact BK556.out | with_reducible exact BK574.out | with_reducible exact BK595.out))) (by first | (simp only [List.setIfInBounds_toArray, List.set_cons_zero, List.set_cons_succ] <;> rfl) | rfl) Tryd.underlying24 rfl (by kernel_rfl) ?_; (try simp only [Act.put, List.setIfInBounds_toArray, List.set_cons_zero, List.set_cons_succ])) | ((with_reducible refine gate_eql (ty := 24) rfl ?_); (try (with_reducible refine gate_gd rfl ?_; refine gate_guard (by first | rfl | exact wanted_on rfl rfl rfl (by first | rfl | (simp [*]; done))) ?_; dsimp only)); refine eql24 rfl rfl rfl rfl true (by first | exact c16b0 | (simpa using c16b0) | exact c30b0 | (simpa using c30b0) | exact c48b0 | (simpa using c48b0)) ?_; (try simp only [Act.put, List.setIfInBounds_toArray, List.set_cons_zero, List.set_cons_succ])) | ((with_reducible refine gate_neq (ty := 24) rfl ?_); (try (with_reducible refine gate_gd rfl ?_; refine gate_guard (by first | rfl | exact wanted_on rfl rfl rfl (by first | rfl | (simp [*]; done))) ?_; dsimp only)); refine neql24 rfl rfl rfl rfl true (by first | exact c16b0 | (simpa using c16b0) | exact c30b0 | (simpa using c30b0) | exact c48b0 | (simpa using c48b0)) ?_; (try simp only [Act.put, List.setIfInBounds_toArray, List.set_cons_zero, List.set_cons_succ])) | ((with_reducible refine gate_eql (ty := 24) rfl ?_); (try (with_reducible refine gate_gd rfl ?_; refine gate_guard (by first | rfl | exact wanted_on rfl rfl rfl (by first | rfl | (simp [*]; done))) ?_; dsimp only)); refine eql24 rfl rfl rfl rfl false (by first | exact c16b0 | (simpa using c16b0) | exact c30b0 | (simpa using c30b0) | exact c48b0 | (simpa using c48b0)) ?_; (try simp only [Act.put, List.setIfInBounds_toArray, List.set_cons_zero, List.set_cons_succ])) | ((with_reducible refine gate_neq (ty := 24) rfl ?_); (try (with_reducible refine gate_gd rfl ?_; refine gate_guard (by first | rfl | exact wanted_on rfl rfl rfl (by first | rfl | (simp [*]; done))) ?_; dsimp only)); refine neql24 rfl rfl rfl rfl false (by first | exact c16b0 | (simpa using c16b0) | exact c30b0 | (simpa using c30b0) | exact c48b0 | (simpa using c48b0)) ?_; (try simp only [Act.put, List.setIfInBounds_toArray, List.set_cons_zero, List.set_cons_succ])) | ((with_reducible refine gate_callee (f := 13) rfl ?_); refine goesL_ (some 43) rfl rfl Tryd.func13 (by kernel_rfl) rfl #[.string x1_2] rfl (by (try simp only [List.map_toArray, List.map_cons, List.map_nil]); first | done | rfl | (simp only [List.length_drop, List.length_take]; rfl)) ?_; (with_reducible refine (bpdu_Parse.calls kj8 x1_2 t557 t558 t559 t560 t561 t562 t563 t564 t565 t566 t567 t568 t569 t570 t571 t572 t573 _ A22.out).mono ?_); rintro e w50 ⟨rfl, hb⟩; refine ⟨_, rfl, ?_⟩; have n0_ := Aside0.mk (blk_below (g := gb536) (by (with_reducible repeat (first | refine blk_drewN ?_ _ | refine blk_drew ?_ | refine blk_alloc ?_ _)); exact BK536.out) hb); have n1_ := Aside0.mk (below_step (by repeat (first | (with_reducible first | exact HB.out | apply below_alloc | apply pw_below_drewN | apply below_drew1 | refine below_set ?_ GE536.out) | exact HB.out)) hb); clear BK536; clear HB; have BK536 := n0_; have HB := n1_; clear n0_ n1_; obtain ⟨hcy1_536_0, hcy1_536_1, hcy1_536_2, hcy1_536_3, hcy1_536_4, hcy1_536_5, hcy1_536_6, hcy1_536_7, hcy1_536_8, hcy1_536_9, hcy1_536_10, hcy1_536_11, hcy1_536_12, hcy1_536_13, hcy1_536_14, hcy1_536_15⟩ := cells16 BK536.out; (try clear hb); (try clear hb2); (try clear hk); (try clear hi)) | ((with_reducible refine gate_dst (N := 9) rfl ?_); (try (refine gate_guard (by rfl) ?_; dsimp only)); refine box_event ?hg (N := 9) ?hd (cs := #[.int .i64 0, .bool false, .bool false, .bool false, .bool false, .bool false, .bool false, .int .i64 0, .int .u64 0, .int .i64 0, .int .u64 0, .int .i64 0, .int .i64 0, .int .i64 0, .int .i64 0, .int .i64 0]) (t := 24) ?hr ?_; (case hd => rfl); (case hg => rfl); (case hr => first | (go_simp; done) | (go_simp; rfl)); intro gb574 hg w51 hbox hb; have n0_ := Aside0.mk (blk_below (g := gb536) (by (with_reducible repeat (first | refine blk_drewN ?_ _ | refine blk_drew ?_ | refine blk_alloc ?_ _)); exact BK536.out) hb); have n1_ := Aside0.mk (below_step (by repeat (first | (with_reducible first | exact HB.out | apply below_alloc | apply pw_below_drewN | apply below_drew1 | refine below_set ?_ GE536.out) | exact HB.out)) hb); have n2_ := Aside0.mk (hbox); have n3_ := Aside0.mk ((by rw [hg]; exact (below_size (by repeat (first | (with_reducible first | exact HB.out | apply below_alloc | apply pw_below_drewN | apply below_drew1 | refine below_set ?_ GE536.out) | exact HB.out))) : w.heap.size ≤ gb574)); have n4_ := Aside0.mk ((by rw [hg]; exact (below_size (by repeat (first | (with_reducible first | exact HB.out | apply below_alloc | apply pw_below_drewN | apply below_drew1 | refine below_set ?_ GE536.out) | exact HB.out))) : w.heap.size ≤ gb574)); have n5_ := Aside0.mk ((by rw [hg]; exact Nat.ne_of_lt (blk_lt (g := gb536) (by (with_reducible repeat (first | refine blk_drewN ?_ _ | refine blk_drew ?_ | refine blk_alloc ?_ _)); exact BK536.out)) : gb536 ≠ gb574)); have n6_ := Aside0.mk ((by rw [hg]; exact Nat.ne_of_gt (blk_lt (g := gb536) (by (with_reducible repeat (first | refine blk_drewN ?_ _ | refine blk_drew ?_ | refine blk_alloc ?_ _)); exact BK536.out)) : gb574 ≠ gb536)); clear BK536; clear HB; have BK536 := n0_; have HB := n1_; have BK574 := n2_; have GW574 := n3_; have GE574 := n4_; have NB536_574 := n5_; have NB574_536 := n6_; clear n0_ n1_ n2_ n3_ n4_ n5_ n6_; obtain ⟨hcy2_536_0, hcy2_536_1, hcy2_536_2, hcy2_536_3, hcy2_536_4, hcy2_536_5, hcy2_536_6, hcy2_536_7, hcy2_536_8, hcy2_536_9, hcy2_536_10, hcy2_536_11, hcy2_536_12, hcy2_536_13, hcy2_536_14, hcy2_536_15⟩ := cells16 BK536.out; clear hb hbox hg; have hnb52 := NB574_536.out; have hnc52 := NB536_574.out; obtain ⟨hcz53_0, hcz53_1, hcz53_2, hcz53_3, hcz53_4, hcz53_5, hcz53_6, hcz53_7, hcz53_8, hcz53_9, hcz53_10, hcz53_11, hcz53_12, hcz53_13, hcz53_14, hcz53_15⟩ := cells16 BK574.out; obtain ⟨hfz53_0, hfz53_1, hfz53_2, hfz53_3, hfz53_4, hfz53_5, hfz53_6, hfz53_7, hfz53_8, hfz53_9, hfz53_10, hfz53_11, hfz53_12, hfz53_13, hfz53_14, hfz53_15⟩ := frozen16 BK574.out) | (go_at_call 10; (with_reducible refine (gangwaylaw09_fixed.calls kj8  t575 _ A49.out).mono ?_); rintro e w54 ⟨rfl, hb⟩; have n0_ := Aside0.mk (blk_below (g := gb536) (o := .cells #[.int .i64 a0_0, .bool a0_1, .bool a0_2, .bool a0_3, .bool a0_4, .bool a0_5, .bool a0_6, .int .i64 a0_7, .int .u64 a0_8, .int .i64 a0_9, .int .u64 a0_10, .int .i64 a0_11, .int .i64 a0_12, .int .i64 a0_13, .int .i64 a0_14, .int .i64 a0_15] 24 (0, 0)) (by (with_reducible repeat (first | refine blk_drewN ?_ _ | refine blk_drew ?_ | refine blk_alloc ?_ _ | refine blk_far ?_ NB536_574.out _)); exact BK536.out) hb); have n1_ := Aside0.mk (blk_below (g := gb574) (o := .cells #[.int .i64 t557, .bool t558, .bool t559, .bool t560, .bool t561, .bool t562, .bool t563, .int .i64 t564, .int .u64 t565, .int .i64 t566, .int .u64 t567, .int .i64 t568, .int .i64 t569, .int .i64 t570, .int .i64 t571, .int .i64 t572] 24 (0, 0)) (by (with_reducible repeat (first | refine blk_drewN ?_ _ | refine blk_drew ?_ | refine blk_alloc ?_ _)); exact put16_0_16 (by (with_reducible repeat (first | refine blk_drewN ?_ _ | refine blk_drew ?_ | refine blk_alloc ?_ _)); exact BK574.out)) hb); have n2_ := Aside0.mk (below_step (by repeat (first | (with_reducible first | exact HB.out | apply below_alloc | apply pw_below_drewN | apply below_drew1 | refine below_set ?_ GE536.out | refine below_set ?_ GE574.out) | exact HB.out)) hb); clear BK536; clear BK574; clear HB; have BK536 := n0_; have BK574 := n1_; have HB := n2_; clear n0_ n1_ n2_; obtain ⟨hcy3_536_0, hcy3_536_1, hcy3_536_2, hcy3_536_3, hcy3_536_4, hcy3_536_5, hcy3_536_6, hcy3_536_7, hcy3_536_8, hcy3_536_9, hcy3_536_10, hcy3_536_11, hcy3_536_12, hcy3_536_13, hcy3_536_14, hcy3_536_15⟩ := cells16 BK536.out; (try clear hb); (try clear hb2); (try clear hk); (try clear hi)))
       go_ret
       exact ⟨by first | rfl | (simp [errW_none, errW_some] <;> rfl) | (simp [*, errW_none, errW_some] <;> rfl) | (simp [*, IntKind.wrap_u32]; done) | (simp_all [IntKind.wrap_u32]; done), by repeat (first | (with_reducible first | exact HB.out | apply below_alloc | apply pw_below_drewN | apply below_drew1 | refine below_set ?_ GE536.out | refine below_set ?_ GE574.out) | exact HB.out)⟩
      ·rw [if_neg c48] at H
       exact absurd H (by simp)

end Go.Proofs.YtbfjlhjfpmgplaaDoor.P
