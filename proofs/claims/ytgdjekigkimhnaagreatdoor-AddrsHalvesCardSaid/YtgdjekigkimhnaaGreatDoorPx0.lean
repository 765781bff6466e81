-- slim
-- Written by wip/hprint.py (this session's program) through the kit's print program; hand contracts are marked 'by hand'.
import Derived.Test.YtgdjekigkimhnaaGreatDoorAbb
import Derived.Test.YtgdjekigkimhnaaGreatDoorProg
import Derived.Below
import Derived.Deep.Draws
import Derived.Deep.AppendLies
import Derived.Maps.AppendAt
import Derived.OwnWalk
import Derived.Laws.BytesArg
import Derived.Laws.MakeOwn
import Derived.Laws.OwnMore
import Derived.Deep.OwnRows
import Derived.Tactics
import Derived.Lib.ConvBytes
import Derived.Laws.Slices
import Derived.WalkKit
import Derived.KernelRfl
import Derived.RowKit3
import Derived.Deep.LoopGhost
import Derived.Deep.QuietTactic
import Derived.BigQuiet
import Derived.WideLaws
import Derived.Deep.DeepCutAuto
import Derived.Deep.CutBlock
import Derived.Deep.RegionHeld3
import Derived.Laws.Rows
import Derived.Lib.AppendStr
import Derived.ArgAppend
import Derived.Laws.IdiomCopy
import Derived.OrdersHeld
import Derived.Laws.BitsLemmas
import Derived.RowKit
import Derived.Lib.AppendIntMem
import Derived.Shelf.Strings.BuilderK
import Derived.Test.YtgdjekigkimhnaaGreatDoorLaid
import Derived.Test.YtgdjekigkimhnaaGreatDoorShelf
import Derived.Test.YtgdjekigkimhnaaGreatDoorWWords
import Derived.Test.YtgdjekigkimhnaaGreatDoorWLast
import Derived.Test.YtgdjekigkimhnaaGreatDoorWTab
import Derived.Test.YtgdjekigkimhnaaGreatDoorWFour
import Derived.Test.YtgdjekigkimhnaaGreatDoorWQPut
import Derived.Test.YtgdjekigkimhnaaGreatDoorWApart
import Derived.Test.YtgdjekigkimhnaaGreatDoorWArr
import Derived.Test.YtgdjekigkimhnaaGreatDoorWZeros
import Derived.Test.YtgdjekigkimhnaaGreatDoorWFoot
import Derived.Test.YtgdjekigkimhnaaGreatDoorWKept
import Derived.Test.YtgdjekigkimhnaaGreatDoorWShare
import Derived.Test.YtgdjekigkimhnaaGreatDoorWN
import Derived.Test.YtgdjekigkimhnaaGreatDoorWFootNe
import Derived.Test.YtgdjekigkimhnaaGreatDoorWAt
import Derived.Test.YtgdjekigkimhnaaGreatDoorWEqStruct
import Derived.Test.YtgdjekigkimhnaaGreatDoorWRepsOne
import Derived.Test.YtgdjekigkimhnaaGreatDoorWInv
import Derived.Test.YtgdjekigkimhnaaGreatDoorWInvWords
import Derived.Test.YtgdjekigkimhnaaGreatDoorWGuard
import Derived.Test.YtgdjekigkimhnaaGreatDoorWNEv
import Derived.Test.YtgdjekigkimhnaaGreatDoorWMore
namespace Go.Proofs.YtgdjekigkimhnaaGreatDoor.P
open Go.RowKit Go.Proofs.YtgdjekigkimhnaaGreatDoorW.PrintWords Go.Proofs.YtgdjekigkimhnaaGreatDoorW.PrintLast Go.Proofs.YtgdjekigkimhnaaGreatDoorW.PrintMore
attribute [local go_sem] max2_int min2_int max_two min_two max_three min_three max_four min_four   -- for this text's walks alone
set_option linter.unusedVariables false
set_option linter.unusedSimpArgs false



def errW : Option Int → Value
 | none => .nilIface
 | some c => .iface 81 (.agg #[.int .i64 (c / 64), .iface 24 (.int .i64 (c % 64))])
theorem errW_none : errW none = .nilIface := rfl
theorem errW_some (c : Int) : errW (some c) = .iface 81 (.agg #[.int .i64 (c / 64), .iface 24 (.int .i64 (c % 64))]) := rfl

theorem info5 : (Tryz.prog.info? 5).map (fun i => (i.zero, i.size, i.bytes)) = some (some (.int .u8 0), 1, 1) := by kernel_rfl
theorem info9 : (Tryz.prog.info? 9).map (fun i => (i.zero, i.size, i.bytes)) = some (some (.string ⟨#[]⟩), 1, 16) := by kernel_rfl
-- the values' own types

end Go.Proofs.YtgdjekigkimhnaaGreatDoor.P
namespace Go.Proofs.YtgdjekigkimhnaaGreatDoor.P
open Go.RowKit Go.Proofs.YtgdjekigkimhnaaGreatDoorW.PrintWords Go.Proofs.YtgdjekigkimhnaaGreatDoorW.PrintLast Go.Proofs.YtgdjekigkimhnaaGreatDoorW.PrintMore
attribute [local go_sem] max2_int min2_int max_two min_two max_three min_three max_four min_four   -- for this text's walks alone
set_option linter.unusedVariables false
set_option linter.unusedSimpArgs false

/-! ### gangwayref01_Num: function 34 -/
def gangwayref01_Num.l0 : Nat → ByteArray → Int → Int → Option (Int)
 | 0, _, _, _ => none
 | k + 1, x0, x3, x4 => if x4 < (x0.size : Int) then (if 0 ≤ x4 then (gangwayref01_Num.l0 k x0 (IntKind.u64.wrap ((IntKind.u64.wrap (x3 * 256)) + (IntKind.u64.wrap (bt x0 x4)))) (wrap64 (x4 + 1))) else (none)) else (some x3)
def gangwayref01_Num.f (k : Nat) (a0 : ByteArray) : Option (Int) := gangwayref01_Num.l0 k a0 0 0
theorem gangwayref01_Num.mono_l : ∀ k, (∀ y0 y1 y2, LeO (gangwayref01_Num.l0 k y0 y1 y2) (gangwayref01_Num.l0 (k + 1) y0 y1 y2))
 | 0 => fun _ _ _ r h => by simp [gangwayref01_Num.l0] at h
 | k + 1 => by
  have ih0 := gangwayref01_Num.mono_l k
  ·intro y0 y1 y2
   unfold gangwayref01_Num.l0
   repeat' first
   | (with_reducible exact ih0 _ _ _)
   | (with_reducible exact LeO.refl _)
   | (with_reducible exact LeO.none _)
   | (with_reducible refine LeO.ite ?_ ?_)
   | (with_reducible refine LeO.bind ?_ (fun _ => ?_))
   | exact ih0 _ _ _
   | exact LeO.none _
   | refine LeO.ite ?_ ?_
   | refine LeO.bind ?_ (fun _ => ?_)
theorem gangwayref01_Num.mono : ∀ a0 k, LeO (gangwayref01_Num.f k a0) (gangwayref01_Num.f (k + 1) a0) := by
 intro a0 k
 have ih0 := gangwayref01_Num.mono_l k
 unfold gangwayref01_Num.f
 repeat' first
   | (with_reducible exact ih0 _ _ _)
   | (with_reducible exact LeO.refl _)
   | (with_reducible exact LeO.none _)
   | (with_reducible refine LeO.ite ?_ ?_)
   | (with_reducible refine LeO.bind ?_ (fun _ => ?_))
   | exact ih0 _ _ _
   | exact LeO.none _
   | refine LeO.ite ?_ ?_
   | refine LeO.bind ?_ (fun _ => ?_)
set_option maxHeartbeats 8000000 in
set_option maxRecDepth 100000 in
theorem gangwayref01_Num.calls (k : Nat) (a0 : ByteArray) (r : Int) (w : World) (h : gangwayref01_Num.f k a0 = some r) :
  Calls Tryz.prog 34 #[.string a0] w fun e w' => e = .returned (.int .u64 r) ∧ Drawn0 w w' := by
 have H := h
 unfold gangwayref01_Num.f at H
 clear h
 have H' := Aside0.mk H
 clear H
 go_enter Tryz.func34, Tryz.ntmps34
 go_wp2
 go_loopg [3, 4] k (fun kq v3 v4 w' => ∃ (x3_1 : Int) (x4_1 : Int), v3 = .int .u64 x3_1 ∧ v4 = .int .i64 x4_1 ∧ Aside0 (gangwayref01_Num.l0 kq a0 x3_1 x4_1 = some r) ∧ Aside0 (kq ≤ k) ∧ Drawn0 w w')
 case atStart => exact ⟨(0), (0), q8z4, q8z4, H', ⟨Nat.le_refl _⟩, qlmv⟩
 case round =>
  clear H'
  obtain ⟨x3_1, x4_1, rfl, rfl, HA, HK1, ⟨m1, rfl⟩⟩ := hrel
  cases gk with
  | zero => exact absurd HA.out (by simp [gangwayref01_Num.l0])
  | succ k1 =>
   have H := HA.out
   clear HA
   simp only [gangwayref01_Num.l0] at H
   by_cases c2 : x4_1 < (a0.size : Int)
   ·rw [if_pos c2] at H
    have c2b0 : decide (x4_1 < (a0.size : Int)) = true := decide_eq_true c2
    clear c2
    by_cases c3 : 0 ≤ x4_1
    ·rw [if_pos c3] at H
     have c3b0 : decide (0 ≤ x4_1) = true := decide_eq_true c3
     clear c3
     have H' := Aside0.mk H
     clear H
     have p4 : 0 ≤ (x4_1 : Int) := of_decide_eq_true qlss
     have q4 : x4_1 < (a0.size : Int) := of_decide_eq_true qlss
     have hx4 := bt_at a0 x4_1
     replace p4 := eq_true p4
     replace q4 := eq_true q4
     go_wp2
     go_roundg k1
     case measure => have := HK1.out; omega
     case rel => exact ⟨(IntKind.u64.wrap ((IntKind.u64.wrap (x3_1 * 256)) + (IntKind.u64.wrap (bt a0 x4_1)))), (wrap64 (x4_1 + 1)), q8z4, q8z4, H', ⟨qi8h⟩, qlmv⟩
    ·rw [if_neg c3] at H
     exact absurd H q6hr
   ·rw [if_neg c2] at H
    have c2b0 : decide (x4_1 < (a0.size : Int)) = false := decide_eq_false c2
    clear c2
    obtain rfl := Option.some.inj H
    go_wp2
    go_ret
    exact ⟨q8z4, qlmv⟩

end Go.Proofs.YtgdjekigkimhnaaGreatDoor.P
namespace Go.Proofs.YtgdjekigkimhnaaGreatDoor.P
open Go.RowKit Go.Proofs.YtgdjekigkimhnaaGreatDoorW.PrintWords Go.Proofs.YtgdjekigkimhnaaGreatDoorW.PrintLast Go.Proofs.YtgdjekigkimhnaaGreatDoorW.PrintMore
attribute [local go_sem] max2_int min2_int max_two min_two max_three min_three max_four min_four   -- for this text's walks alone
set_option linter.unusedVariables false
set_option linter.unusedSimpArgs false

theorem q91p {p : Prop} (h : p := by (with_reducible repeat (first | refine blk_drewN ?_ _ | refine blk_drew ?_ | refine blk_alloc ?_ _)); exact BK157.out) : p := h
theorem qwka {p : Prop} (h : p := by repeat (first | (with_reducible first | exact HB.out | apply below_alloc | apply pw_below_drewN | apply below_drew1 | refine below_set ?_ GE157.out) | exact HB.out)) : p := h
/-! ### addrs_Group: function 18 -/
def addrs_Group.f (a0 : Int) : Option (Bool) := some ((Go.bits .and .u64 a0 1099511627776) != 0)
set_option maxHeartbeats 8000000 in
set_option maxRecDepth 100000 in
theorem addrs_Group.calls (a0 : Int) (r : Bool) (w : World) (h : addrs_Group.f a0 = some r) :
  Calls Tryz.prog 18 #[.int .u64 a0] w fun e w' => e = .returned (.bool r) ∧ Drawn0 w w' := by
 have H := h
 unfold addrs_Group.f at H
 clear h
 obtain rfl := Option.some.inj H
 go_enter Tryz.func18, Tryz.ntmps18
 go_wp2
 go_ret
 exact ⟨q8z4, qlmv⟩
/-! ### addrs_Own: function 20 -/
def addrs_Own.f (a0 : Int) : Option (Bool) := if a0 = 0 then (some false) else (if a0 < 281474976710656 then ((addrs_Group.f a0).bind fun t156 => (some (!t156))) else (some false))
theorem z16_0 {p : Prop} (h : p := by
 obtain rfl := Option.some.inj H
 go_enter Tryz.func20, Tryz.ntmps20
 go_wp2
 go_ret
 exact ⟨q8z4, qlmv⟩) : p := h
set_option maxHeartbeats 8000000 in
set_option maxRecDepth 100000 in
theorem addrs_Own.calls (a0 : Int) (r : Bool) (w : World) (h : addrs_Own.f a0 = some r) :
  Calls Tryz.prog 20 #[.int .u64 a0] w fun e w' => e = .returned (.bool r) ∧ Drawn0 w w' := by
 have H := h
 unfold addrs_Own.f at H
 clear h
 by_cases c2 : a0 = 0
 ·rw [if_pos c2] at H
  have c2b0 : (a0 == 0) = true := beq_iff_eq.mpr c2
  have c2b1 : (a0 != 0) = false := bne_eq_false_iff_eq.mpr c2
  clear c2
  exact z16_0
 ·rw [if_neg c2] at H
  have c2b0 : (a0 == 0) = false := beq_eq_false_iff_ne.mpr c2
  have c2b1 : (a0 != 0) = true := bne_iff_ne.mpr c2
  by_cases c3 : a0 < 281474976710656
  ·rw [if_pos c3] at H
   have c3b0 : decide (a0 < 281474976710656) = true := decide_eq_true c3
   clear c3
   replace H := Option.bind_eq_some_iff.mp H
   obtain ⟨t156, A40, H⟩ := H
   try dsimp only at H
   have A4 := Aside0.mk A40
   clear A40
   obtain rfl := Option.some.inj H
   go_enter Tryz.func20, Tryz.ntmps20
   go_wp2_with (first | (go_at_call 18; (with_reducible refine (addrs_Group.calls a0 t156 _ A4.out).mono ?_); rintro e w' ⟨rfl, ⟨nd, rfl⟩⟩))
   go_ret
   exact ⟨q8z4, qlmv⟩
  ·rw [if_neg c3] at H
   have c3b0 : decide (a0 < 281474976710656) = false := decide_eq_false c3
   clear c3
   exact z16_0
/-! ### addrs_rest: function 44 -/
def addrs_rest.l0 : Nat → Int → Int → Int → Option (Int)
 | 0, _, _, _ => none
 | k + 1, x3, x6, x7 => if x7 < x6 then (addrs_rest.l0 k (Go.bits .or .u32 ((x3 * 2) % 4294967296) 1) x6 (wrap64 (x7 + 1))) else (some x3)
def addrs_rest.f (k : Nat) (a0_0 : Int) (a0_1 : Int) : Option (Int) := addrs_rest.l0 k 0 (wrap64 (32 - a0_1)) 0
theorem addrs_rest.mono_l : ∀ k, (∀ y0 y1 y2, LeO (addrs_rest.l0 k y0 y1 y2) (addrs_rest.l0 (k + 1) y0 y1 y2))
 | 0 => fun _ _ _ r h => by simp [addrs_rest.l0] at h
 | k + 1 => by
  have ih0 := addrs_rest.mono_l k
  ·intro y0 y1 y2
   unfold addrs_rest.l0
   repeat' first
   | (with_reducible exact ih0 _ _ _)
   | (with_reducible exact LeO.refl _)
   | (with_reducible exact LeO.none _)
   | (with_reducible refine LeO.ite ?_ ?_)
   | (with_reducible refine LeO.bind ?_ (fun _ => ?_))
   | exact ih0 _ _ _
   | exact LeO.none _
   | refine LeO.ite ?_ ?_
   | refine LeO.bind ?_ (fun _ => ?_)
theorem addrs_rest.mono : ∀ a0 a1 k, LeO (addrs_rest.f k a0 a1) (addrs_rest.f (k + 1) a0 a1) := by
 intro a0 a1 k
 have ih0 := addrs_rest.mono_l k
 unfold addrs_rest.f
 repeat' first
   | (with_reducible exact ih0 _ _ _)
   | (with_reducible exact LeO.refl _)
   | (with_reducible exact LeO.none _)
   | (with_reducible refine LeO.ite ?_ ?_)
   | (with_reducible refine LeO.bind ?_ (fun _ => ?_))
   | exact ih0 _ _ _
   | exact LeO.none _
   | refine LeO.ite ?_ ?_
   | refine LeO.bind ?_ (fun _ => ?_)
set_option maxHeartbeats 8000000 in
set_option maxRecDepth 100000 in
theorem addrs_rest.calls (k : Nat) (a0_0 : Int) (a0_1 : Int) (r : Int) (w : World) (h : addrs_rest.f k a0_0 a0_1 = some r) :
  Calls Tryz.prog 44 #[.agg #[.int .u32 a0_0, .int .i64 a0_1]] w fun e w' => e = .returned (.int .u32 r) ∧ Below w.heap.size w w' := by
 have hu34 := Tryz.underlying34
 have HB := Aside0.mk (Below.refl w.heap.size w)
 have H := h
 unfold addrs_rest.f at H
 clear h
 have H' := Aside0.mk H
 clear H
 go_enter Tryz.func44, Tryz.ntmps44
 go_wp2_with (first | ((with_reducible refine gate_dst (N := 1) rfl ?_); refine box_event qgcr (N := 1) qgcr (cs := #[.int .u32 a0_0, .int .i64 a0_1]) (t := 34) qlto ?_; intro gb157 hg w2 hbox hb; have BK157 := Aside0.mk (hbox); have GE157 := Aside0.mk ((qisx : w.heap.size ≤ gb157)); replace HB := Aside0.mk (below_step qpag hb); clear hb hbox hg; have hcz3_0 : w2.cell? ⟨gb157, 0, none⟩ = some (.int .u32 a0_0) := (blk_cell BK157.out 0).trans rfl; have hcz3_1 : w2.cell? ⟨gb157, 1, none⟩ = some (.int .i64 a0_1) := (blk_cell BK157.out 1).trans rfl; have hfz3_0 := blk_frozen BK157.out 0; have hfz3_1 := blk_frozen BK157.out 1))
 go_loopg [3, 7] k (fun kq v3 v7 w' => ∃ (x3_1 : Int) (x7_1 : Int), v3 = .int .u32 x3_1 ∧ v7 = .int .i64 x7_1 ∧ Aside0 (addrs_rest.l0 kq x3_1 (wrap64 (32 - a0_1)) x7_1 = some r) ∧ Aside0 (kq ≤ k) ∧ Aside0 (w'.heap[gb157]? = some (.cells #[.int .u32 a0_0, .int .i64 a0_1] 34 (0, 0))) ∧ Aside0 (Below w.heap.size w w'))
 case atStart => exact ⟨(0), (0), q8z4, q8z4, H', ⟨Nat.le_refl _⟩, ⟨q91p⟩, ⟨qwka⟩⟩
 case round =>
  clear H'
  try clear p2
  obtain ⟨x3_1, x7_1, rfl, rfl, HA, HK1, BK157, HB⟩ := hrel
  cases gk with
  | zero => exact absurd HA.out (by simp [addrs_rest.l0])
  | succ k1 =>
   have H := HA.out
   clear HA
   simp only [addrs_rest.l0] at H
   by_cases c4 : x7_1 < (wrap64 (32 - a0_1))
   ·rw [if_pos c4] at H
    have c4b0 : decide (x7_1 < (wrap64 (32 - a0_1))) = true := decide_eq_true c4
    clear c4
    have H' := Aside0.mk H
    clear H
    go_wp2
    go_roundg k1
    case measure => have := HK1.out; omega
    case rel => exact ⟨(Go.bits .or .u32 ((x3_1 * 2) % 4294967296) 1), (wrap64 (x7_1 + 1)), q8z4, q8z4, H', ⟨qi8h⟩, ⟨q91p⟩, ⟨qwka⟩⟩
   ·rw [if_neg c4] at H
    have c4b0 : decide (x7_1 < (wrap64 (32 - a0_1))) = false := decide_eq_false c4
    clear c4
    obtain rfl := Option.some.inj H
    go_wp2
    go_ret
    exact ⟨qxu5, qwka⟩
end Go.Proofs.YtgdjekigkimhnaaGreatDoor.P
namespace Go.Proofs.YtgdjekigkimhnaaGreatDoor.P
open Go.RowKit Go.Proofs.YtgdjekigkimhnaaGreatDoorW.PrintWords Go.Proofs.YtgdjekigkimhnaaGreatDoorW.PrintLast Go.Proofs.YtgdjekigkimhnaaGreatDoorW.PrintMore
attribute [local go_sem] max2_int min2_int max_two min_two max_three min_three max_four min_four   -- for this text's walks alone
set_option linter.unusedVariables false
set_option linter.unusedSimpArgs false

/-! ### gangwayref01_half: function 50 -/
def gangwayref01_half.j0 : Nat → Int → Bool → Option (Int)
 | 0, _, _ => none
 | k + 1, x0, x8 => if x8 = true then (some ((x0 - 48) % 256)) else (if x0 ≥ 97 then (if x0 ≤ 102 then (some ((x0 - 87) % 256)) else (some 16)) else (some 16))
def gangwayref01_half.f (k : Nat) (a0 : Int) : Option (Int) := if a0 ≥ 48 then (gangwayref01_half.j0 k a0 (decide (a0 ≤ 57))) else (gangwayref01_half.j0 k a0 false)
theorem gangwayref01_half.mono_l : ∀ k, (∀ y0 y1, LeO (gangwayref01_half.j0 k y0 y1) (gangwayref01_half.j0 (k + 1) y0 y1))
 | 0 => fun _ _ r h => by simp [gangwayref01_half.j0] at h
 | k + 1 => by
  have ih0 := gangwayref01_half.mono_l k
  ·intro y0 y1
   unfold gangwayref01_half.j0
   repeat' first
   | (with_reducible exact ih0 _ _)
   | (with_reducible exact LeO.refl _)
   | (with_reducible exact LeO.none _)
   | (with_reducible refine LeO.ite ?_ ?_)
   | (with_reducible refine LeO.bind ?_ (fun _ => ?_))
   | exact ih0 _ _
   | exact LeO.none _
   | refine LeO.ite ?_ ?_
   | refine LeO.bind ?_ (fun _ => ?_)
theorem gangwayref01_half.mono : ∀ a0 k, LeO (gangwayref01_half.f k a0) (gangwayref01_half.f (k + 1) a0) := by
 intro a0 k
 have ih0 := gangwayref01_half.mono_l k
 unfold gangwayref01_half.f
 repeat' first
   | (with_reducible exact ih0 _ _)
   | (with_reducible exact LeO.refl _)
   | (with_reducible exact LeO.none _)
   | (with_reducible refine LeO.ite ?_ ?_)
   | (with_reducible refine LeO.bind ?_ (fun _ => ?_))
   | exact ih0 _ _
   | exact LeO.none _
   | refine LeO.ite ?_ ?_
   | refine LeO.bind ?_ (fun _ => ?_)
theorem z8_0 {p : Prop} (h : p := by
 obtain rfl := Option.some.inj H
 go_wp2
 go_ret
 exact ⟨q8z4, qlmv⟩) : p := h
set_option maxHeartbeats 8000000 in
set_option maxRecDepth 100000 in
theorem gangwayref01_half.calls (k : Nat) (a0 : Int) (r : Int) (w : World) (h : gangwayref01_half.f k a0 = some r) :
  Calls Tryz.prog 50 #[.int .u8 a0] w fun e w' => e = .returned (.int .u8 r) ∧ Drawn0 w w' := by
 have H := h
 unfold gangwayref01_half.f at H
 clear h
 have HC2 := Aside0.mk H
 clear H
 go_enter Tryz.func50, Tryz.ntmps50
 go_upto_region 1 with (fail)
 go_cut [8] (fun v8 wc => ∃ (kq : Nat) (x8_1 : Bool), v8 = .bool x8_1 ∧ Aside0 (gangwayref01_half.j0 kq a0 x8_1 = some r) ∧ Aside0 (kq ≤ k) ∧ Drawn0 w wc)
 case first =>
  have H := HC2.out
  clear HC2
  by_cases c3 : a0 ≥ 48
  ·rw [if_pos c3] at H
   have c3b0 : decide (48 ≤ a0) = true := decide_eq_true c3
   clear c3
   (first | rw [c3b0] | (simp only [i64_w, i32_w]; rw [c3b0]) | skip)
   have H' := Aside0.mk H
   clear H
   go_wp2
   go_meet
   case rel => exact ⟨_, (decide (a0 ≤ 57)), q8z4, H', ⟨qpfc⟩, qlmv⟩
  ·rw [if_neg c3] at H
   have c3b0 : decide (48 ≤ a0) = false := decide_eq_false c3
   clear c3
   (first | rw [c3b0] | (simp only [i64_w, i32_w]; rw [c3b0]) | skip)
   have H' := Aside0.mk H
   clear H
   go_wp2
   go_meet
   case rel => exact ⟨_, (false), q8z4, H', ⟨qpfc⟩, qlmv⟩
 case rest =>
  clear HC2
  try clear p2
  try clear c3
  try clear c3b0
  obtain ⟨kq, x8_1, rfl, HA, HJ1, ⟨mc1, rfl⟩⟩ := hcut
  cases kq with
  | zero => exact absurd HA.out (by simp [gangwayref01_half.j0])
  | succ kj1 =>
   have H := HA.out
   clear HA
   simp only [gangwayref01_half.j0] at H
   by_cases c4 : x8_1 = true
   ·subst c4
    rw [if_pos rfl] at H
    exact z8_0
   ·replace c4 := Bool.eq_false_iff.mpr c4
    subst c4
    rw [if_neg (show ¬ (false = true) by decide)] at H
    by_cases c5 : a0 ≥ 97
    ·rw [if_pos c5] at H
     have c5b0 : decide (97 ≤ a0) = true := decide_eq_true c5
     clear c5
     by_cases c6 : a0 ≤ 102
     ·rw [if_pos c6] at H
      have c6b0 : decide (a0 ≤ 102) = true := decide_eq_true c6
      clear c6
      exact z8_0
     ·rw [if_neg c6] at H
      have c6b0 : decide (a0 ≤ 102) = false := decide_eq_false c6
      clear c6
      exact z8_0
    ·rw [if_neg c5] at H
     have c5b0 : decide (97 ≤ a0) = false := decide_eq_false c5
     clear c5
     exact z8_0
end Go.Proofs.YtgdjekigkimhnaaGreatDoor.P
