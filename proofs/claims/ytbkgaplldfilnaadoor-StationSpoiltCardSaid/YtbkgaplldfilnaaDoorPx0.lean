-- slim
-- Written by wip/hprint.py (this session's program) through the kit's print program; hand contracts are marked 'by hand'.
import Derived.Test.YtbkgaplldfilnaaDoorAbb
import Derived.Test.YtbkgaplldfilnaaDoorProg
import Derived.Below
import Derived.Deep.Draws
import Derived.Deep.AppendLies
import Derived.Maps.AppendAt
import Derived.OwnWalk
import Derived.Laws.BytesArg
import Derived.Laws.MakeOwn
import Derived.Laws.OwnMore
import Derived.Deep.OwnRows
import Derived.Tactics
import Derived.Lib.ConvBytes
import Derived.Laws.Slices
import Derived.WalkKit
import Derived.KernelRfl
import Derived.RowKit3
import Derived.Deep.LoopGhost
import Derived.Deep.QuietTactic
import Derived.BigQuiet
import Derived.WideLaws
import Derived.Deep.DeepCutAuto
import Derived.Deep.CutBlock
import Derived.Deep.RegionHeld3
import Derived.Laws.Rows
import Derived.Lib.AppendStr
import Derived.ArgAppend
import Derived.Laws.IdiomCopy
import Derived.OrdersHeld
import Derived.Laws.BitsLemmas
import Derived.RowKit
import Derived.Test.YtbkgaplldfilnaaDoorAsOdd
import Derived.Test.YtbkgaplldfilnaaDoorAsWhile
import Derived.Test.YtbkgaplldfilnaaDoorShelf
import Derived.Test.YtbkgaplldfilnaaDoorWWords
import Derived.Test.YtbkgaplldfilnaaDoorWLast
import Derived.Test.YtbkgaplldfilnaaDoorWTab
import Derived.Test.YtbkgaplldfilnaaDoorWFour
import Derived.Test.YtbkgaplldfilnaaDoorWQPut
import Derived.Test.YtbkgaplldfilnaaDoorWApart
import Derived.Test.YtbkgaplldfilnaaDoorWArr
import Derived.Test.YtbkgaplldfilnaaDoorWZeros
import Derived.Test.YtbkgaplldfilnaaDoorWFoot
import Derived.Test.YtbkgaplldfilnaaDoorWKept
import Derived.Test.YtbkgaplldfilnaaDoorWShare
import Derived.Test.YtbkgaplldfilnaaDoorWN
import Derived.Test.YtbkgaplldfilnaaDoorWFootNe
import Derived.Test.YtbkgaplldfilnaaDoorWAt
import Derived.Test.YtbkgaplldfilnaaDoorWEqStruct
import Derived.Test.YtbkgaplldfilnaaDoorWRepsOne
import Derived.Test.YtbkgaplldfilnaaDoorWInv
import Derived.Test.YtbkgaplldfilnaaDoorWInvWords
import Derived.Test.YtbkgaplldfilnaaDoorWGuard
import Derived.Test.YtbkgaplldfilnaaDoorWNEv
import Derived.Test.YtbkgaplldfilnaaDoorWMore
import Derived.Test.YtbkgaplldfilnaaDoorRow
namespace Go.Proofs.YtbkgaplldfilnaaDoor.P
open Go.RowKit Go.Proofs.YtbkgaplldfilnaaDoorW.PrintWords Go.Proofs.YtbkgaplldfilnaaDoorW.PrintLast Go.Proofs.YtbkgaplldfilnaaDoorW.PrintMore
attribute [local go_sem] max2_int min2_int max_two min_two max_three min_three max_four min_four   -- for this text's walks alone
set_option linter.unusedVariables false
set_option linter.unusedSimpArgs false



def errT_ (c : Int) : TypeId := if c < 1000 then 140 else 104
def errP_ (c : Int) : Value := if c < 1000 then .agg #[.int .i64 c] else .agg #[.string (if c < 2000 then (⟨#[102, 114, 97, 109, 101]⟩ : ByteArray) else (if c < 3000 then (⟨#[112, 97, 99, 107, 101, 116]⟩ : ByteArray) else (⟨#[100, 97, 116, 97, 103, 114, 97, 109]⟩ : ByteArray))), .iface 58 (.agg #[.int .i64 (c % 1000)])]
def errW : Option Int → Value
 | none => .nilIface
 | some c => .iface (errT_ c) (errP_ c)
theorem errW_none : errW none = .nilIface := rfl
theorem errW_some (c : Int) : errW (some c) = .iface (errT_ c) (errP_ c) := rfl

theorem info5 : (Tryd.prog.info? 5).map (fun i => (i.zero, i.size, i.bytes)) = some (some (.int .u8 0), 1, 1) := by kernel_rfl
theorem info9 : (Tryd.prog.info? 9).map (fun i => (i.zero, i.size, i.bytes)) = some (some (.string ⟨#[]⟩), 1, 16) := by kernel_rfl
-- the values' own types

end Go.Proofs.YtbkgaplldfilnaaDoor.P
namespace Go.Proofs.YtbkgaplldfilnaaDoor.P
open Go.RowKit Go.Proofs.YtbkgaplldfilnaaDoorW.PrintWords Go.Proofs.YtbkgaplldfilnaaDoorW.PrintLast Go.Proofs.YtbkgaplldfilnaaDoorW.PrintMore
attribute [local go_sem] max2_int min2_int max_two min_two max_three min_three max_four min_four   -- for this text's walks alone
set_option linter.unusedVariables false
set_option linter.unusedSimpArgs false

/-! ### octets_part: function 72, by hand -/
def octets_part.f (a0 : ByteArray) (a1 : Int) (a2 : Int) : Option (ByteArray × Option Int) :=
 if 0 ≤ a1 then (if 0 ≤ a2 then (if a1 + a2 ≤ (a0.size : Int) then (if a0.size ≤ 1099511627776 then some (a0.extract a1.toNat (a1 + a2).toNat, none) else none) else none) else none) else none
set_option maxHeartbeats 4000000 in
theorem octets_part.calls (a0 : ByteArray) (a1 : Int) (a2 : Int) (r1 : ByteArray) (r2 : Option Int) (w : World) (h : octets_part.f a0 a1 a2 = some (r1, r2)) :
  Calls Tryd.prog 72 #[.string a0, .int .i64 a1, .int .i64 a2] w fun e w' => e = .returned (.tuple #[.string r1, errW r2]) ∧ Drawn0 w w' := by
 unfold octets_part.f at h
 by_cases h1 : 0 ≤ a1
 ·rw [if_pos h1] at h
  by_cases h2 : 0 ≤ a2
  ·rw [if_pos h2] at h
   by_cases h3 : a1 + a2 ≤ (a0.size : Int)
   ·rw [if_pos h3] at h
    by_cases h4 : a0.size ≤ 1099511627776
    ·rw [if_pos h4] at h
     obtain ⟨i, rfl⟩ := Int.eq_ofNat_of_zero_le h1
     obtain ⟨n, rfl⟩ := Int.eq_ofNat_of_zero_le h2
     obtain ⟨rfl, rfl⟩ : a0.extract i (i + n) = r1 ∧ none = r2 := by
      have h5 := Option.some.inj h
      rw [Int.toNat_natCast, show ((i : Int) + (n : Int)).toNat = i + n by omega] at h5
      exact Prod.mk.inj h5
     clear h
     have h5 : i + n ≤ a0.size := by omega
     clear h3
     have b3 : decide (a0.size < i) = false := decide_eq_false q1jy
     have b4 : decide ((a0.size : Int) - (i : Int) < (n : Int)) = false := decide_eq_false q1jy
     have b5 : ¬ a0.size < i := by omega
     have b6 : ¬ ((a0.size : Int) - (i : Int) < (n : Int)) := by omega
     have c1 := eq_true (show (0 : Int) ≤ (i : Int) by omega)
     have c2 := eq_true (show (i : Int) ≤ (i : Int) + (n : Int) by omega)
     have c3 := eq_true (show (i : Int) + (n : Int) ≤ (a0.size : Int) by omega)
     have c4 : ((i : Int) + (n : Int)).toNat = i + n := by omega
     go_enter Tryd.func72, Tryd.ntmps72
     go_wp2
     go_ret2
     exact ⟨rfl, ⟨0, rfl⟩⟩
    ·rw [if_neg h4] at h
     cases h
   ·rw [if_neg h3] at h
    cases h
  ·rw [if_neg h2] at h
   cases h
 ·rw [if_neg h1] at h
  cases h

/-! ### octets_number: function 73, by hand -/
def octets_number.f (a0 : Option Int) : Option (Int) := if a0 = none then some 0 else none
theorem octets_number.calls (a0 : Option Int) (r : Int) (w : World) (h : octets_number.f a0 = some r) :
  Calls Tryd.prog 73 #[errW a0] w fun e w' => e = .returned (.int .i64 r) ∧ Below w.heap.size w w' := by
 unfold octets_number.f at h
 by_cases h1 : a0 = none
 ·rw [if_pos h1] at h
  cases h
  subst h1
  rw [errW_none]
  go_enter Tryd.func73, Tryd.ntmps73
  go_wp2
  go_ret
  exact ⟨rfl, (Below.refl _ _).alloc (Nat.le_refl _) _⟩
 ·rw [if_neg h1] at h
  cases h

end Go.Proofs.YtbkgaplldfilnaaDoor.P
namespace Go.Proofs.YtbkgaplldfilnaaDoor.P
open Go.RowKit Go.Proofs.YtbkgaplldfilnaaDoorW.PrintWords Go.Proofs.YtbkgaplldfilnaaDoorW.PrintLast Go.Proofs.YtbkgaplldfilnaaDoorW.PrintMore
attribute [local go_sem] max2_int min2_int max_two min_two max_three min_three max_four min_four   -- for this text's walks alone
set_option linter.unusedVariables false
set_option linter.unusedSimpArgs false

theorem eqA31 (d : Nat) (w : World) (x0 y0 : Int) (x1 y1 : Int) (x2 y2 : Bool) (x3 y3 : ByteArray) :
  (Op.equalIn (d + 2) 31 (.agg #[.int .i64 x0, .int .i64 x1, .bool x2, .string x3]) (.agg #[.int .i64 y0, .int .i64 y1, .bool y2, .string y3])).run Tryd.prog w = .ok (x0 == y0 && (x1 == y1 && (x2 == y2 && (x3.toList == y3.toList)))) w := by
 refine eqA_of Tryd.underlying31 qg3m ?_
 refine eqf_cons qgcr qk3u qk3u (by go_simp) ?_
 refine eqf_cons qgcr qk3u qk3u (by go_simp) ?_
 refine eqf_cons qgcr qk3u qk3u (by go_simp) ?_
 exact eqf_last qgcr qk3u qk3u (by go_simp)
theorem eqA33 (d : Nat) (w : World) (x0 y0 : Int) (x1 y1 : Int) (x2 y2 : Int) (x3 y3 : Int) (x4 y4 : Bool) (x5 y5 : ByteArray) :
  (Op.equalIn (d + 3) 33 (.agg #[.int .i64 x0, .int .u32 x1, .int .i64 x2, .int .i64 x3, .bool x4, .string x5]) (.agg #[.int .i64 y0, .int .u32 y1, .int .i64 y2, .int .i64 y3, .bool y4, .string y5])).run Tryd.prog w = .ok (x0 == y0 && (x1 == y1 && ((x2 == y2 && (x3 == y3 && (x4 == y4 && (x5.toList == y5.toList))))))) w := by
 refine eqA_of Tryd.underlying33 qg3m ?_
 refine eqf_cons qgcr qk3u qk3u (by go_simp) ?_
 refine eqf_cons qgcr qk3u qk3u (by go_simp) ?_
 exact eqf_last qgcr (by go_simp) (by go_simp) (eqA31 (d + 0) w _ _ _ _ _ _ _ _)
end Go.Proofs.YtbkgaplldfilnaaDoor.P
namespace Go.Proofs.YtbkgaplldfilnaaDoor.P
open Go.RowKit Go.Proofs.YtbkgaplldfilnaaDoorW.PrintWords Go.Proofs.YtbkgaplldfilnaaDoorW.PrintLast Go.Proofs.YtbkgaplldfilnaaDoorW.PrintMore
attribute [local go_sem] max2_int min2_int max_two min_two max_three min_three max_four min_four   -- for this text's walks alone
set_option linter.unusedVariables false
set_option linter.unusedSimpArgs false

/-! ### csum_fold: function 79 -/
def csum_fold.l0 : Nat → Int → Option (Int)
 | 0, _ => none
 | k + 1, x0 => if x0 > 65535 then (csum_fold.l0 k (wrap64 ((Go.bits .and .i64 x0 65535) + (x0 / 65536)))) else (some x0)
def csum_fold.f (k : Nat) (a0 : Int) : Option (Int) := csum_fold.l0 k a0
theorem csum_fold.mono_l : ∀ k, (∀ y0, LeO (csum_fold.l0 k y0) (csum_fold.l0 (k + 1) y0))
 | 0 => fun _ r h => by simp [csum_fold.l0] at h
 | k + 1 => by
  have ih0 := csum_fold.mono_l k
  ·intro y0
   unfold csum_fold.l0
   repeat' first
   | (with_reducible exact ih0 _)
   | (with_reducible exact LeO.refl _)
   | (with_reducible exact LeO.none _)
   | (with_reducible refine LeO.ite ?_ ?_)
   | (with_reducible refine LeO.bind ?_ (fun _ => ?_))
   | exact ih0 _
   | exact LeO.none _
   | refine LeO.ite ?_ ?_
   | refine LeO.bind ?_ (fun _ => ?_)
theorem csum_fold.mono : ∀ a0 k, LeO (csum_fold.f k a0) (csum_fold.f (k + 1) a0) := by
 intro a0 k
 have ih0 := csum_fold.mono_l k
 unfold csum_fold.f
 repeat' first
   | (with_reducible exact ih0 _)
   | (with_reducible exact LeO.refl _)
   | (with_reducible exact LeO.none _)
   | (with_reducible refine LeO.ite ?_ ?_)
   | (with_reducible refine LeO.bind ?_ (fun _ => ?_))
   | exact ih0 _
   | exact LeO.none _
   | refine LeO.ite ?_ ?_
   | refine LeO.bind ?_ (fun _ => ?_)
set_option maxHeartbeats 8000000 in
set_option maxRecDepth 100000 in
theorem csum_fold.calls (k : Nat) (a0 : Int) (r : Int) (w : World) (h : csum_fold.f k a0 = some r) :
  Calls Tryd.prog 79 #[.int .i64 a0] w fun e w' => e = .returned (.int .i64 r) ∧ Drawn0 w w' := by
 have H : (csum_fold.l0 k a0) = some r := h
 clear h
 have H' := Aside0.mk H
 clear H
 go_enter Tryd.func79, Tryd.ntmps79
 go_wp2
 go_loopg [0] k (fun kq v0 w' => ∃ (x0_1 : Int), v0 = .int .i64 x0_1 ∧ Aside0 (csum_fold.l0 kq x0_1 = some r) ∧ Aside0 (kq ≤ k) ∧ Drawn0 w w')
 case atStart => exact ⟨(a0), q8z4, H', ⟨Nat.le_refl _⟩, qlmv⟩
 case round =>
  clear H'
  obtain ⟨x0_1, rfl, HA, HK1, ⟨m1, rfl⟩⟩ := hrel
  cases gk with
  | zero => exact absurd HA.out (by simp [csum_fold.l0])
  | succ k1 =>
   have H := HA.out
   clear HA
   simp only [csum_fold.l0] at H
   by_cases c2 : x0_1 > 65535
   ·rw [if_pos c2] at H
    have c2b0 : decide (65535 < x0_1) = true := decide_eq_true c2
    clear c2
    have H' := Aside0.mk H
    clear H
    go_wp2
    go_roundg k1
    case measure => have := HK1.out; omega
    case rel => exact ⟨(wrap64 ((Go.bits .and .i64 x0_1 65535) + (x0_1 / 65536))), q8z4, H', ⟨(by have := HK1.out; omega)⟩, qlmv⟩
   ·rw [if_neg c2] at H
    have c2b0 : decide (65535 < x0_1) = false := decide_eq_false c2
    clear c2
    obtain rfl := Option.some.inj H
    go_wp2
    go_ret
    exact ⟨q8z4, qlmv⟩

end Go.Proofs.YtbkgaplldfilnaaDoor.P
namespace Go.Proofs.YtbkgaplldfilnaaDoor.P
open Go.RowKit Go.Proofs.YtbkgaplldfilnaaDoorW.PrintWords Go.Proofs.YtbkgaplldfilnaaDoorW.PrintLast Go.Proofs.YtbkgaplldfilnaaDoorW.PrintMore
attribute [local go_sem] max2_int min2_int max_two min_two max_three min_three max_four min_four   -- for this text's walks alone
set_option linter.unusedVariables false
set_option linter.unusedSimpArgs false

/-! ### octets_Get: function 56 -/
mutual
def octets_Get.j0 : Nat → ByteArray → Int → Int → Bool → Option (Int × Int)
 | 0, _, _, _, _ => none
 | k + 1, x0, x1, x2, x17 => if x17 = true then (some (0, 1)) else ((octets_part.f x0 x1 x2).bind fun bt108 => (if bt108.2.isNone = true then (octets_Get.l0 k bt108.1 0 x2 0) else ((octets_number.f (some (bt108.2.getD 0))).bind fun t111 => (some (0, t111)))))
def octets_Get.l0 : Nat → ByteArray → Int → Int → Int → Option (Int × Int)
 | 0, _, _, _, _ => none
 | k + 1, x8, x10, x29, x30 => if x30 < x29 then (if 0 ≤ x30 then (if x30 < (x8.size : Int) then (octets_Get.l0 k x8 (Go.bits .or .u64 (IntKind.u64.wrap (x10 * 256)) (IntKind.u64.wrap (bt x8 x30))) x29 (wrap64 (x30 + 1))) else (none)) else (none)) else (some (x10, 0))
end
def octets_Get.f (k : Nat) (a0 : ByteArray) (a1 : Int) (a2 : Int) : Option (Int × Int) := if a2 < 1 then (octets_Get.j0 k a0 a1 a2 true) else (octets_Get.j0 k a0 a1 a2 (decide (a2 > 8)))
theorem octets_Get.mono_l : ∀ k, (∀ y0 y1 y2 y3, LeO (octets_Get.j0 k y0 y1 y2 y3) (octets_Get.j0 (k + 1) y0 y1 y2 y3)) ∧ (∀ y0 y1 y2 y3, LeO (octets_Get.l0 k y0 y1 y2 y3) (octets_Get.l0 (k + 1) y0 y1 y2 y3))
 | 0 => ⟨fun _ _ _ _ r h => by simp [octets_Get.j0] at h, fun _ _ _ _ r h => by simp [octets_Get.l0] at h⟩
 | k + 1 => by
  obtain ⟨ih0, ih1⟩ := octets_Get.mono_l k
  refine ⟨?_, ?_⟩
  ·intro y0 y1 y2 y3
   unfold octets_Get.j0
   repeat' first
   | (with_reducible exact ih0 _ _ _ _)
   | (with_reducible exact ih1 _ _ _ _)
   | (with_reducible exact LeO.refl _)
   | (with_reducible exact LeO.none _)
   | (with_reducible refine LeO.ite ?_ ?_)
   | (with_reducible refine LeO.bind ?_ (fun _ => ?_))
   | exact ih0 _ _ _ _
   | exact ih1 _ _ _ _
   | exact LeO.none _
   | refine LeO.ite ?_ ?_
   | refine LeO.bind ?_ (fun _ => ?_)
  ·intro y0 y1 y2 y3
   unfold octets_Get.l0
   repeat' first
   | (with_reducible exact ih0 _ _ _ _)
   | (with_reducible exact ih1 _ _ _ _)
   | (with_reducible exact LeO.refl _)
   | (with_reducible exact LeO.none _)
   | (with_reducible refine LeO.ite ?_ ?_)
   | (with_reducible refine LeO.bind ?_ (fun _ => ?_))
   | exact ih0 _ _ _ _
   | exact ih1 _ _ _ _
   | exact LeO.none _
   | refine LeO.ite ?_ ?_
   | refine LeO.bind ?_ (fun _ => ?_)
theorem octets_Get.mono : ∀ a0 a1 a2 k, LeO (octets_Get.f k a0 a1 a2) (octets_Get.f (k + 1) a0 a1 a2) := by
 intro a0 a1 a2 k
 obtain ⟨ih0, ih1⟩ := octets_Get.mono_l k
 unfold octets_Get.f
 repeat' first
   | (with_reducible exact ih0 _ _ _ _)
   | (with_reducible exact ih1 _ _ _ _)
   | (with_reducible exact LeO.refl _)
   | (with_reducible exact LeO.none _)
   | (with_reducible refine LeO.ite ?_ ?_)
   | (with_reducible refine LeO.bind ?_ (fun _ => ?_))
   | exact ih0 _ _ _ _
   | exact ih1 _ _ _ _
   | exact LeO.none _
   | refine LeO.ite ?_ ?_
   | refine LeO.bind ?_ (fun _ => ?_)
theorem z6_0 {p : Prop} (h : p := by
 simp only [Option.some.injEq, Prod.mk.injEq] at H
 obtain ⟨rfl, rfl⟩ := H
 go_wp2
 go_ret2
 exact ⟨qxu5, qpag⟩) : p := h
theorem z6_1 {p : Prop} (h : p := by
 obtain rfl := Option.some.inj H
 go_enter Tryd.func74, Tryd.ntmps74
 go_wp2
 go_ret
 exact ⟨q8z4, qlmv⟩) : p := h
set_option maxHeartbeats 8000000 in
set_option maxRecDepth 100000 in
theorem octets_Get.calls (k : Nat) (a0 : ByteArray) (a1 : Int) (a2 : Int) (r1 : Int) (r2 : Int) (w : World) (h : octets_Get.f k a0 a1 a2 = some (r1, r2)) :
  Calls Tryd.prog 56 #[.string a0, .int .i64 a1, .int .i64 a2] w fun e w' => e = .returned (.tuple #[.int .u64 r1, .int .i64 r2]) ∧ Below w.heap.size w w' := by
 have hu51 := Tryd.underlying51
 have HB := Aside0.mk (Below.refl w.heap.size w)
 have H : (if a2 < 1 then (octets_Get.j0 k a0 a1 a2 true) else (octets_Get.j0 k a0 a1 a2 (decide (a2 > 8)))) = some (r1, r2) := h
 clear h
 have HC4 := Aside0.mk H
 clear H
 go_enter Tryd.func56, Tryd.ntmps56
 go_upto_region 1 with (fail)
 go_cut [17] (fun v17 wc => ∃ (kq : Nat) (x17_3 : Bool), v17 = .bool x17_3 ∧ Aside0 (octets_Get.j0 kq a0 a1 a2 x17_3 = some (r1, r2)) ∧ Aside0 (kq ≤ k) ∧ Aside0 (Below w.heap.size w wc))
 case first =>
  have H := HC4.out
  clear HC4
  by_cases c5 : a2 < 1
  ·rw [if_pos c5] at H
   have c5b0 : decide (a2 < 1) = true := decide_eq_true c5
   clear c5
   (first | rw [c5b0] | (simp only [i64_w, i32_w]; rw [c5b0]) | skip)
   have H' := Aside0.mk H
   clear H
   go_wp2
   go_meet
   case rel => exact ⟨_, (true), q8z4, H', ⟨qpfc⟩, ⟨qpag⟩⟩
  ·rw [if_neg c5] at H
   have c5b0 : decide (a2 < 1) = false := decide_eq_false c5
   clear c5
   (first | rw [c5b0] | (simp only [i64_w, i32_w]; rw [c5b0]) | skip)
   have H' := Aside0.mk H
   clear H
   go_wp2
   go_meet
   case rel => exact ⟨_, (decide (a2 > 8)), q8z4, H', ⟨qpfc⟩, ⟨qpag⟩⟩
 case rest =>
  clear HC4
  try clear p2
  try clear c5
  try clear c5b0
  obtain ⟨kq, x17_3, rfl, HA, HJ3, HB⟩ := hcut
  cases kq with
  | zero => exact absurd HA.out (by simp [octets_Get.j0])
  | succ kj3 =>
   have H := HA.out
   clear HA
   simp only [octets_Get.j0] at H
   by_cases c6 : x17_3 = true
   ·subst c6
    rw [if_pos rfl] at H
    exact z6_0
   ·replace c6 := Bool.eq_false_iff.mpr c6
    subst c6
    rw [if_neg (show ¬ (false = true) by decide)] at H
    replace H := Option.bind_eq_some_iff.mp H
    obtain ⟨⟨t108, t109⟩, A70, H⟩ := H
    try dsimp only at H
    have A7 := Aside0.mk A70
    clear A70
    rcases t109 with _ | q110
    ·have H1 : (octets_Get.l0 kj3 t108 0 a2 0) = some (r1, r2) := by rw [if_pos (show (none : Option Int).isNone = true by rfl)] at H; exact H
     clear H
     have H := H1
     clear H1
     try simp only [errW_none, errW_some]
     have H' := Aside0.mk H
     clear H
     go_wp2_with (first | ((with_reducible refine gate_callee (f := 72) rfl ?_); refine goesL_ (some 22) rfl rfl Tryd.func72 qg3m rfl #[.string a0, .int .i64 a1, .int .i64 a2] rfl qraq ?_; (with_reducible refine (octets_part.calls a0 a1 a2 t108 none _ A7.out).mono ?_); rintro e w' ⟨rfl, ⟨nd, rfl⟩⟩; refine ⟨_, rfl, ?_⟩; (try simp only [errW_none, errW_some])))
     go_loopg [10, 30] kj3 (fun kq v10 v30 w' => ∃ (x10_2 : Int) (x30_2 : Int), v10 = .int .u64 x10_2 ∧ v30 = .int .i64 x30_2 ∧ Aside0 (octets_Get.l0 kq t108 x10_2 a2 x30_2 = some (r1, r2)) ∧ Aside0 (kq ≤ kj3) ∧ Aside0 (Below w.heap.size w w'))
     case atStart => exact ⟨(0), (0), q8z4, q8z4, H', ⟨Nat.le_refl _⟩, ⟨qpag⟩⟩
     case round =>
      clear H'
      try clear q1
      try clear p2
      try clear c5
      try clear c5b0
      try clear c6
      try clear c7
      try clear p2
      try clear q110
      obtain ⟨x10_2, x30_2, rfl, rfl, HA, HK2, HB⟩ := hrel
      cases gk with
      | zero => exact absurd HA.out (by simp [octets_Get.l0])
      | succ k2 =>
       have H := HA.out
       clear HA
       simp only [octets_Get.l0] at H
       by_cases c8 : x30_2 < a2
       ·rw [if_pos c8] at H
        have c8b0 : decide (x30_2 < a2) = true := decide_eq_true c8
        clear c8
        by_cases c9 : 0 ≤ x30_2
        ·rw [if_pos c9] at H
         have c9b0 : decide (0 ≤ x30_2) = true := decide_eq_true c9
         clear c9
         by_cases c10 : x30_2 < (t108.size : Int)
         ·rw [if_pos c10] at H
          have c10b0 : decide (x30_2 < (t108.size : Int)) = true := decide_eq_true c10
          clear c10
          have H' := Aside0.mk H
          clear H
          have p11 : 0 ≤ (x30_2 : Int) := of_decide_eq_true qlss
          have q11 : x30_2 < (t108.size : Int) := of_decide_eq_true qlss
          have hx11 := bt_at t108 x30_2
          replace p11 := eq_true p11
          replace q11 := eq_true q11
          go_wp2
          go_roundg k2
          case measure => have := HJ3.out; have := HK2.out; omega
          case rel => exact ⟨(Go.bits .or .u64 (IntKind.u64.wrap (x10_2 * 256)) (IntKind.u64.wrap (bt t108 x30_2))), (wrap64 (x30_2 + 1)), q8z4, q8z4, H', ⟨(by have := HJ3.out; have := HK2.out; omega)⟩, ⟨qpag⟩⟩
         ·rw [if_neg c10] at H
          exact absurd H q6hr
        ·rw [if_neg c9] at H
         exact absurd H q6hr
       ·rw [if_neg c8] at H
        have c8b0 : decide (x30_2 < a2) = false := decide_eq_false c8
        clear c8
        exact z6_0
    ·have H1 : ((octets_number.f (some q110)).bind fun t111 => (some (0, t111))) = some (r1, r2) := by rw [if_neg (show ¬ (some q110).isNone = true by simp)] at H; exact H
     clear H
     have H := H1
     clear H1
     try simp only [errW_none, errW_some]
     replace H := Option.bind_eq_some_iff.mp H
     obtain ⟨t111, A120, H⟩ := H
     try dsimp only at H
     have A12 := Aside0.mk A120
     clear A120
     simp only [Option.some.injEq, Prod.mk.injEq] at H
     obtain ⟨rfl, rfl⟩ := H
     go_wp2_with (first | ((with_reducible refine gate_callee (f := 72) rfl ?_); refine goesL_ (some 22) rfl rfl Tryd.func72 qg3m rfl #[.string a0, .int .i64 a1, .int .i64 a2] rfl qraq ?_; (with_reducible refine (octets_part.calls a0 a1 a2 t108 (some q110) _ A7.out).mono ?_); rintro e w' ⟨rfl, ⟨nd, rfl⟩⟩; refine ⟨_, rfl, ?_⟩; (try simp only [errW_none, errW_some]); have CA12 := fun W => octets_number.calls (some q110) t111 W A12.out; try simp only [errW_none, errW_some] at CA12) | (go_at_call 73; (with_reducible refine (CA12 _).mono ?_); rintro e w13 ⟨rfl, hb⟩; replace HB := Aside0.mk (below_step qpag hb); (try clear hb); (try clear hb2); (try clear hk); (try clear hi)))
     go_ret2
     exact ⟨qxu5, qpag⟩
/-! ### stringslite_HasPrefix: function 74 -/
def stringslite_HasPrefix.f (a0 : ByteArray) (a1 : ByteArray) : Option (Bool) := if (a0.size : Int) ≥ (a1.size : Int) then (if 0 ≤ (a1.size : Int) then (if (a1.size : Int) ≤ (a0.size : Int) then (some ((a0.extract 0 ((a1.size : Int) : Int).toNat).toList == a1.toList)) else (none)) else (none)) else (some false)
set_option maxHeartbeats 8000000 in
set_option maxRecDepth 100000 in
theorem stringslite_HasPrefix.calls (a0 : ByteArray) (a1 : ByteArray) (r : Bool) (w : World) (h : stringslite_HasPrefix.f a0 a1 = some r) :
  Calls Tryd.prog 74 #[.string a0, .string a1] w fun e w' => e = .returned (.bool r) ∧ Drawn0 w w' := by
 have H : (if (a0.size : Int) ≥ (a1.size : Int) then (if 0 ≤ (a1.size : Int) then (if (a1.size : Int) ≤ (a0.size : Int) then (some ((a0.extract 0 ((a1.size : Int) : Int).toNat).toList == a1.toList)) else (none)) else (none)) else (some false)) = some r := h
 clear h
 by_cases c3 : (a0.size : Int) ≥ (a1.size : Int)
 ·rw [if_pos c3] at H
  have c3b0 : decide ((a1.size : Int) ≤ (a0.size : Int)) = true := decide_eq_true c3
  have c3b1 : decide (a1.size ≤ a0.size) = true := decide_eq_true (Int.ofNat_le.mp c3)
  clear c3
  by_cases c4 : 0 ≤ (a1.size : Int)
  ·rw [if_pos c4] at H
   have c4b0 := eq_true c4
   have c4b1 : decide (0 ≤ (a1.size : Int)) = true := decide_eq_true c4
   clear c4
   by_cases c5 : (a1.size : Int) ≤ (a0.size : Int)
   ·rw [if_pos c5] at H
    have c5b0 := eq_true c5
    have c5b1 : decide ((a1.size : Int) ≤ (a0.size : Int)) = true := decide_eq_true c5
    clear c5
    exact z6_1
   ·rw [if_neg c5] at H
    exact absurd H q6hr
  ·rw [if_neg c4] at H
   exact absurd H q6hr
 ·rw [if_neg c3] at H
  have c3b0 : decide ((a1.size : Int) ≤ (a0.size : Int)) = false := decide_eq_false c3
  have c3b1 : decide (a1.size ≤ a0.size) = false := decide_eq_false (fun h => c3 (Int.ofNat_le.mpr h))
  clear c3
  exact z6_1
end Go.Proofs.YtbkgaplldfilnaaDoor.P
namespace Go.Proofs.YtbkgaplldfilnaaDoor.P
open Go.RowKit Go.Proofs.YtbkgaplldfilnaaDoorW.PrintWords Go.Proofs.YtbkgaplldfilnaaDoorW.PrintLast Go.Proofs.YtbkgaplldfilnaaDoorW.PrintMore
attribute [local go_sem] max2_int min2_int max_two min_two max_three min_three max_four min_four   -- for this text's walks alone
set_option linter.unusedVariables false
set_option linter.unusedSimpArgs false

/-! ### station_not: function 27, by hand -/
def station_not.f (a0 : ByteArray) (a1 : Int) : Option (Option Int) :=
 if 0 ≤ a1 then (if a1 < 1000 then (if a0 = (⟨#[102, 114, 97, 109, 101]⟩ : ByteArray) then some (some (1000 + a1)) else (if a0 = (⟨#[112, 97, 99, 107, 101, 116]⟩ : ByteArray) then some (some (2000 + a1)) else (if a0 = (⟨#[100, 97, 116, 97, 103, 114, 97, 109]⟩ : ByteArray) then some (some (3000 + a1)) else none))) else none) else none
theorem errW_at_ (j n : Int) (h0 : 0 ≤ n) (h1 : n < 1000) (hj : 1 ≤ j) (s : ByteArray) (hs : (if 1000 * j + n < 2000 then (⟨#[102, 114, 97, 109, 101]⟩ : ByteArray) else (if 1000 * j + n < 3000 then (⟨#[112, 97, 99, 107, 101, 116]⟩ : ByteArray) else (⟨#[100, 97, 116, 97, 103, 114, 97, 109]⟩ : ByteArray))) = s) :
  errW (some (1000 * j + n)) = .iface 104 (.agg #[.string s, .iface 58 (.agg #[.int .i64 n])]) := by
 rw [errW_some]
 unfold errT_ errP_
 rw [if_neg q1jy, if_neg q1jy, hs, show (1000 * j + n) % 1000 = n by omega]
theorem station_not.calls (a0 : ByteArray) (a1 : Int) (r : Option Int) (w : World) (h : station_not.f a0 a1 = some r) :
  Calls Tryd.prog 27 #[.string a0, .int .i64 a1] w fun e w' => e = .returned (errW r) ∧ Drawn0 w w' := by
 have key : errW r = .iface 104 (.agg #[.string a0, .iface 58 (.agg #[.int .i64 a1])]) := by
  unfold station_not.f at h
  split at h
  ·split at h
   ·rename_i h0 h1
    split at h
    ·rename_i h2
     cases h
     subst h2
     exact errW_at_ 1 a1 h0 h1 q1jy _ (by rw [if_pos q1jy])
    ·split at h
     ·rename_i h2
      cases h
      subst h2
      exact errW_at_ 2 a1 h0 h1 q1jy _ (by rw [if_neg q1jy, if_pos q1jy])
     ·split at h
      ·rename_i h2
       cases h
       subst h2
       exact errW_at_ 3 a1 h0 h1 q1jy _ (by rw [if_neg q1jy, if_neg q1jy])
      ·cases h
   ·cases h
  ·cases h
 clear h
 go_enter Tryd.func27, Tryd.ntmps27
 go_wp2
 go_ret
 exact ⟨(by rw [key]; rfl), ⟨0, rfl⟩⟩
/-! ### addrs_Group: function 54 -/
def addrs_Group.f (a0 : Int) : Option (Bool) := some ((Go.bits .and .u64 a0 1099511627776) != 0)
theorem z3_0 {p : Prop} (h : p := by
 go_wp2
 go_ret
 exact ⟨q8z4, qlmv⟩) : p := h
set_option maxHeartbeats 8000000 in
set_option maxRecDepth 100000 in
theorem addrs_Group.calls (a0 : Int) (r : Bool) (w : World) (h : addrs_Group.f a0 = some r) :
  Calls Tryd.prog 54 #[.int .u64 a0] w fun e w' => e = .returned (.bool r) ∧ Drawn0 w w' := by
 have H : (some ((Go.bits .and .u64 a0 1099511627776) != 0)) = some r := h
 clear h
 obtain rfl := Option.some.inj H
 go_enter Tryd.func54, Tryd.ntmps54
 exact z3_0
/-! ### addrs_Own: function 28 -/
def addrs_Own.f (a0 : Int) : Option (Bool) := if a0 = 0 then (some false) else (if a0 < 281474976710656 then ((addrs_Group.f a0).bind fun t101 => (some (!t101))) else (some false))
set_option maxHeartbeats 8000000 in
set_option maxRecDepth 100000 in
theorem addrs_Own.calls (a0 : Int) (r : Bool) (w : World) (h : addrs_Own.f a0 = some r) :
  Calls Tryd.prog 28 #[.int .u64 a0] w fun e w' => e = .returned (.bool r) ∧ Drawn0 w w' := by
 have H : (if a0 = 0 then (some false) else (if a0 < 281474976710656 then ((addrs_Group.f a0).bind fun t101 => (some (!t101))) else (some false))) = some r := h
 clear h
 by_cases c2 : a0 = 0
 ·rw [if_pos c2] at H
  have c2b0 : (a0 == 0) = true := beq_iff_eq.mpr c2
  have c2b1 : (a0 != 0) = false := bne_eq_false_iff_eq.mpr c2
  clear c2
  obtain rfl := Option.some.inj H
  go_enter Tryd.func28, Tryd.ntmps28
  exact z3_0
 ·rw [if_neg c2] at H
  have c2b0 : (a0 == 0) = false := beq_eq_false_iff_ne.mpr c2
  have c2b1 : (a0 != 0) = true := bne_iff_ne.mpr c2
  by_cases c3 : a0 < 281474976710656
  ·rw [if_pos c3] at H
   have c3b0 : decide (a0 < 281474976710656) = true := decide_eq_true c3
   clear c3
   replace H := Option.bind_eq_some_iff.mp H
   obtain ⟨t101, A40, H⟩ := H
   try dsimp only at H
   have A4 := Aside0.mk A40
   clear A40
   obtain rfl := Option.some.inj H
   go_enter Tryd.func28, Tryd.ntmps28
   go_wp2_with (first | (go_at_call 54; (with_reducible refine (addrs_Group.calls a0 t101 _ A4.out).mono ?_); rintro e w' ⟨rfl, ⟨nd, rfl⟩⟩))
   go_ret
   exact ⟨q8z4, qlmv⟩
  ·rw [if_neg c3] at H
   have c3b0 : decide (a0 < 281474976710656) = false := decide_eq_false c3
   clear c3
   obtain rfl := Option.some.inj H
   go_enter Tryd.func28, Tryd.ntmps28
   exact z3_0
end Go.Proofs.YtbkgaplldfilnaaDoor.P
namespace Go.Proofs.YtbkgaplldfilnaaDoor.P
open Go.RowKit Go.Proofs.YtbkgaplldfilnaaDoorW.PrintWords Go.Proofs.YtbkgaplldfilnaaDoorW.PrintLast Go.Proofs.YtbkgaplldfilnaaDoorW.PrintMore
attribute [local go_sem] max2_int min2_int max_two min_two max_three min_three max_four min_four   -- for this text's walks alone
set_option linter.unusedVariables false
set_option linter.unusedSimpArgs false

/-! ### inet_get: function 81 -/
def inet_get.f (a0 : ByteArray) (a1 : Int) : Option (Int) := if 0 ≤ a1 then (if a1 < (a0.size : Int) then (if 0 ≤ (wrap64 (a1 + 1)) then (if (wrap64 (a1 + 1)) < (a0.size : Int) then (some (Go.bits .or .i64 (wrap64 ((wrap64 (bt a0 a1)) * 256)) (wrap64 (bt a0 (wrap64 (a1 + 1)))))) else (none)) else (none)) else (none)) else (none)
set_option maxHeartbeats 8000000 in
set_option maxRecDepth 100000 in
theorem inet_get.calls (a0 : ByteArray) (a1 : Int) (r : Int) (w : World) (h : inet_get.f a0 a1 = some r) :
  Calls Tryd.prog 81 #[.string a0, .int .i64 a1] w fun e w' => e = .returned (.int .i64 r) ∧ Drawn0 w w' := by
 have H : (if 0 ≤ a1 then (if a1 < (a0.size : Int) then (if 0 ≤ (wrap64 (a1 + 1)) then (if (wrap64 (a1 + 1)) < (a0.size : Int) then (some (Go.bits .or .i64 (wrap64 ((wrap64 (bt a0 a1)) * 256)) (wrap64 (bt a0 (wrap64 (a1 + 1)))))) else (none)) else (none)) else (none)) else (none)) = some r := h
 clear h
 by_cases c3 : 0 ≤ a1
 ·rw [if_pos c3] at H
  have c3b0 : decide (0 ≤ a1) = true := decide_eq_true c3
  clear c3
  by_cases c4 : a1 < (a0.size : Int)
  ·rw [if_pos c4] at H
   have c4b0 : decide (a1 < (a0.size : Int)) = true := decide_eq_true c4
   clear c4
   obtain ⟨ji6, hji6⟩ : ∃ j_ : Int, (wrap64 (a1 + 1)) = j_ := ⟨_, rfl⟩
   replace H : (if 0 ≤ (ji6) then (if (ji6) < (a0.size : Int) then (some (Go.bits .or .i64 (wrap64 ((wrap64 (bt a0 a1)) * 256)) (wrap64 (bt a0 (ji6))))) else (none)) else (none)) = some r := by first | (rw [hji6] at H; exact H) | (simp only [hji6] at H ⊢; exact H)
   have hji6w : (IntKind.i64.wrap (a1 + 1)) = ji6 := (i64_w _).trans hji6
   by_cases c7 : 0 ≤ (ji6)
   ·rw [if_pos c7] at H
    have c7b0 : decide (0 ≤ (ji6)) = true := decide_eq_true c7
    clear c7
    by_cases c8 : (ji6) < (a0.size : Int)
    ·rw [if_pos c8] at H
     have c8b0 : decide ((ji6) < (a0.size : Int)) = true := decide_eq_true c8
     clear c8
     obtain rfl := Option.some.inj H
     have p5 : 0 ≤ (a1 : Int) := of_decide_eq_true qlss
     have q5 : a1 < (a0.size : Int) := of_decide_eq_true qlss
     have hx5 := bt_at a0 a1
     replace p5 := eq_true p5
     replace q5 := eq_true q5
     have p9 : 0 ≤ ((ji6) : Int) := of_decide_eq_true qlss
     have q9 : (ji6) < (a0.size : Int) := of_decide_eq_true qlss
     have hx9 := bt_at a0 (ji6)
     replace p9 := eq_true p9
     replace q9 := eq_true q9
     go_enter Tryd.func81, Tryd.ntmps81
     go_wp2
     repeat (go_quiet (fail); try go_wp2)
     go_ret
     exact ⟨(by first | rfl | (simp; done) | (simp only [← hji6] <;> (first | rfl | simp)) | (simp [*]; done)), qlmv⟩
    ·rw [if_neg c8] at H
     exact absurd H q6hr
   ·rw [if_neg c7] at H
    exact absurd H q6hr
  ·rw [if_neg c4] at H
   exact absurd H q6hr
 ·rw [if_neg c3] at H
  exact absurd H q6hr

end Go.Proofs.YtbkgaplldfilnaaDoor.P
namespace Go.Proofs.YtbkgaplldfilnaaDoor.P
open Go.RowKit Go.Proofs.YtbkgaplldfilnaaDoorW.PrintWords Go.Proofs.YtbkgaplldfilnaaDoorW.PrintLast Go.Proofs.YtbkgaplldfilnaaDoorW.PrintMore
attribute [local go_sem] max2_int min2_int max_two min_two max_three min_three max_four min_four   -- for this text's walks alone
set_option linter.unusedVariables false
set_option linter.unusedSimpArgs false

/-! ### strings_HasPrefix: function 57 -/
def strings_HasPrefix.f (a0 : ByteArray) (a1 : ByteArray) : Option (Bool) := (stringslite_HasPrefix.f a0 a1).bind fun t112 => (some t112)
set_option maxHeartbeats 8000000 in
set_option maxRecDepth 100000 in
theorem strings_HasPrefix.calls (a0 : ByteArray) (a1 : ByteArray) (r : Bool) (w : World) (h : strings_HasPrefix.f a0 a1 = some r) :
  Calls Tryd.prog 57 #[.string a0, .string a1] w fun e w' => e = .returned (.bool r) ∧ Drawn0 w w' := by
 have H : ((stringslite_HasPrefix.f a0 a1).bind fun t112 => (some t112)) = some r := h
 clear h
 replace H := Option.bind_eq_some_iff.mp H
 obtain ⟨t112, A30, H⟩ := H
 try dsimp only at H
 have A3 := Aside0.mk A30
 clear A30
 obtain rfl := Option.some.inj H
 go_enter Tryd.func57, Tryd.ntmps57
 go_wp2_with (first | ((with_reducible refine gate_callee (f := 74) rfl ?_); refine goesL_ (some 7) rfl rfl Tryd.func74 qg3m rfl #[.string a0, .string a1] rfl qraq ?_; (with_reducible refine (stringslite_HasPrefix.calls a0 a1 t112 _ A3.out).mono ?_); rintro e w' ⟨rfl, ⟨nd, rfl⟩⟩; refine ⟨_, rfl, ?_⟩))
 go_ret
 exact ⟨q8z4, qlmv⟩
/-! ### arp_Check: function 58 -/
def arp_Check.f (a0_0 : Int) (a0_1 : Int) (a0_2 : Int) (a0_3 : Int) (a0_4 : Int) : Option (Int) := if a0_0 = 1 then ((addrs_Own.f a0_1).bind fun t114 => (if t114 = true then (if a0_3 ≥ 281474976710656 then (some 51) else (some 0)) else (some 51))) else (if a0_0 = 2 then ((addrs_Own.f a0_1).bind fun t115 => (if t115 = true then (if a0_3 ≥ 281474976710656 then (some 51) else (some 0)) else (some 51))) else (some 51))
theorem z7_1 {p : Prop} (h : p := by
 clear cz4
 obtain rfl := Option.some.inj H
 go_enter Tryd.func58, Tryd.ntmps58
 go_wp2_with (first | ((with_reducible refine gate_st (ty := 35) rfl ?_); refine storeC5 rfl rfl rfl rfl rfl q5q4 qr2c qg3m rfl ?_) | ((with_reducible refine gate_ld (ty := 35) rfl ?_); (try (with_reducible refine gate_gd rfl ?_; refine gate_guard q8ju ?_; dsimp only)); refine load_st rfl rfl rfl q5q4 qr2c Tryd.underlying35 rfl qg3m ?_; (try simp only [Act.put, List.setIfInBounds_toArray, List.set_cons_zero, List.set_cons_succ])) | ((with_reducible refine gate_dst (N := 1) rfl ?_); refine box_event qgcr (N := 1) qgcr (cs := #[.int .i64 a0_0, .int .u64 a0_1, .int .u32 a0_2, .int .u64 a0_3, .int .u32 a0_4]) (t := 35) qlto ?_; intro gbzz5 hg wzz6 hbox hb; have BK113 := Aside0.mk (hbox); have GEzz5 := Aside0.mk ((qisx : w.heap.size ≤ gbzz5)); replace HB := Aside0.mk (below_step qpag hb); clear hb hbox hg; obtain ⟨hczzz7_0, hczzz7_1, hczzz7_2, hczzz7_3, hczzz7_4⟩ := cells5 BK113.out; obtain ⟨hfzzz7_0, hfzzz7_1, hfzzz7_2, hfzzz7_3, hfzzz7_4⟩ := frozen5 BK113.out) | (go_at_call 28; (with_reducible refine (addrs_Own.calls a0_1 true _ Az2.out).mono ?_); rintro e w' ⟨rfl, ⟨nd, rfl⟩⟩))
 go_ret
 exact ⟨qxu5, (by repeat (first | (with_reducible first | exact HB.out | apply below_alloc | apply pw_below_drewN | apply below_drew1 | refine below_set ?_ GEzz5.out) | exact HB.out))⟩) : p := h
theorem z7_0 {p : Prop} (h : p := by
 replace H := Option.bind_eq_some_iff.mp H
 obtain ⟨tz0, Az1, H⟩ := H
 try dsimp only at H
 have Az2 := Aside0.mk Az1
 clear Az1
 by_cases cz3 : tz0 = true
 ·subst cz3
  rw [if_pos rfl] at H
  by_cases cz4 : a0_3 ≥ 281474976710656
  ·rw [if_pos cz4] at H
   have cz4b0 : decide (281474976710656 ≤ a0_3) = true := decide_eq_true cz4
   exact z7_1
  ·rw [if_neg cz4] at H
   have cz4b0 : decide (281474976710656 ≤ a0_3) = false := decide_eq_false cz4
   exact z7_1
 ·replace cz3 := Bool.eq_false_iff.mpr cz3
  subst cz3
  rw [if_neg (show ¬ (false = true) by decide)] at H
  obtain rfl := Option.some.inj H
  go_enter Tryd.func58, Tryd.ntmps58
  go_wp2_with (first | ((with_reducible refine gate_st (ty := 35) rfl ?_); refine storeC5 rfl rfl rfl rfl rfl q5q4 qr2c qg3m rfl ?_) | ((with_reducible refine gate_ld (ty := 35) rfl ?_); (try (with_reducible refine gate_gd rfl ?_; refine gate_guard q8ju ?_; dsimp only)); refine load_st rfl rfl rfl q5q4 qr2c Tryd.underlying35 rfl qg3m ?_; (try simp only [Act.put, List.setIfInBounds_toArray, List.set_cons_zero, List.set_cons_succ])) | ((with_reducible refine gate_dst (N := 1) rfl ?_); refine box_event qgcr (N := 1) qgcr (cs := #[.int .i64 a0_0, .int .u64 a0_1, .int .u32 a0_2, .int .u64 a0_3, .int .u32 a0_4]) (t := 35) qlto ?_; intro gbz5 hg wz10 hbox hb; have BK113 := Aside0.mk (hbox); have GEz5 := Aside0.mk ((qisx : w.heap.size ≤ gbz5)); replace HB := Aside0.mk (below_step qpag hb); clear hb hbox hg; obtain ⟨hczz11_0, hczz11_1, hczz11_2, hczz11_3, hczz11_4⟩ := cells5 BK113.out; obtain ⟨hfzz11_0, hfzz11_1, hfzz11_2, hfzz11_3, hfzz11_4⟩ := frozen5 BK113.out) | (go_at_call 28; (with_reducible refine (addrs_Own.calls a0_1 false _ Az2.out).mono ?_); rintro e w' ⟨rfl, ⟨nd, rfl⟩⟩))
  go_ret
  exact ⟨qxu5, qtky⟩) : p := h
set_option maxHeartbeats 8000000 in
set_option maxRecDepth 100000 in
theorem arp_Check.calls (a0_0 : Int) (a0_1 : Int) (a0_2 : Int) (a0_3 : Int) (a0_4 : Int) (r : Int) (w : World) (h : arp_Check.f a0_0 a0_1 a0_2 a0_3 a0_4 = some r) :
  Calls Tryd.prog 58 #[.agg #[.int .i64 a0_0, .int .u64 a0_1, .int .u32 a0_2, .int .u64 a0_3, .int .u32 a0_4]] w fun e w' => e = .returned (.int .i64 r) ∧ Below w.heap.size w w' := by
 have hu35 := Tryd.underlying35
 have HB := Aside0.mk (Below.refl w.heap.size w)
 have H : (if a0_0 = 1 then ((addrs_Own.f a0_1).bind fun t114 => (if t114 = true then (if a0_3 ≥ 281474976710656 then (some 51) else (some 0)) else (some 51))) else (if a0_0 = 2 then ((addrs_Own.f a0_1).bind fun t115 => (if t115 = true then (if a0_3 ≥ 281474976710656 then (some 51) else (some 0)) else (some 51))) else (some 51))) = some r := h
 clear h
 by_cases c2 : a0_0 = 1
 ·rw [if_pos c2] at H
  have c2b0 : (a0_0 == 1) = true := beq_iff_eq.mpr c2
  have c2b1 : (a0_0 != 1) = false := bne_eq_false_iff_eq.mpr c2
  clear c2
  exact z7_0
 ·rw [if_neg c2] at H
  have c2b0 : (a0_0 == 1) = false := beq_eq_false_iff_ne.mpr c2
  have c2b1 : (a0_0 != 1) = true := bne_iff_ne.mpr c2
  by_cases c12 : a0_0 = 2
  ·rw [if_pos c12] at H
   have c12b0 : (a0_0 == 2) = true := beq_iff_eq.mpr c12
   have c12b1 : (a0_0 != 2) = false := bne_eq_false_iff_eq.mpr c12
   clear c12
   exact z7_0
  ·rw [if_neg c12] at H
   have c12b0 : (a0_0 == 2) = false := beq_eq_false_iff_ne.mpr c12
   have c12b1 : (a0_0 != 2) = true := bne_iff_ne.mpr c12
   obtain rfl := Option.some.inj H
   go_enter Tryd.func58, Tryd.ntmps58
   go_wp2_with (first | ((with_reducible refine gate_st (ty := 35) rfl ?_); refine storeC5 rfl rfl rfl rfl rfl q5q4 qr2c qg3m rfl ?_) | ((with_reducible refine gate_ld (ty := 35) rfl ?_); (try (with_reducible refine gate_gd rfl ?_; refine gate_guard q8ju ?_; dsimp only)); refine load_st rfl rfl rfl q5q4 qr2c Tryd.underlying35 rfl qg3m ?_; (try simp only [Act.put, List.setIfInBounds_toArray, List.set_cons_zero, List.set_cons_succ])) | ((with_reducible refine gate_dst (N := 1) rfl ?_); refine box_event qgcr (N := 1) qgcr (cs := #[.int .i64 a0_0, .int .u64 a0_1, .int .u32 a0_2, .int .u64 a0_3, .int .u32 a0_4]) (t := 35) qlto ?_; intro gb113 hg w22 hbox hb; have BK113 := Aside0.mk (hbox); have GE113 := Aside0.mk ((qisx : w.heap.size ≤ gb113)); replace HB := Aside0.mk (below_step qpag hb); clear hb hbox hg; obtain ⟨hcz23_0, hcz23_1, hcz23_2, hcz23_3, hcz23_4⟩ := cells5 BK113.out; obtain ⟨hfz23_0, hfz23_1, hfz23_2, hfz23_3, hfz23_4⟩ := frozen5 BK113.out))
   go_ret
   exact ⟨qxu5, (by repeat (first | (with_reducible first | exact HB.out | apply below_alloc | apply pw_below_drewN | apply below_drew1 | refine below_set ?_ GE113.out) | exact HB.out))⟩
end Go.Proofs.YtbkgaplldfilnaaDoor.P
namespace Go.Proofs.YtbkgaplldfilnaaDoor.P
open Go.RowKit Go.Proofs.YtbkgaplldfilnaaDoorW.PrintWords Go.Proofs.YtbkgaplldfilnaaDoorW.PrintLast Go.Proofs.YtbkgaplldfilnaaDoorW.PrintMore
attribute [local go_sem] max2_int min2_int max_two min_two max_three min_three max_four min_four   -- for this text's walks alone
set_option linter.unusedVariables false
set_option linter.unusedSimpArgs false

/-! ### octets_Put: function 47 -/
mutual
def octets_Put.j0 : Nat → Int → Int → Bool → Option (ByteArray × Int)
 | 0, _, _, _ => none
 | k + 1, x0, x1, x24 => if x24 = true then (some ((⟨#[]⟩ : ByteArray), 1)) else (if 0 ≤ x1 then (if (x1 : Int).toNat ≤ 281474976710656 then ((some (List.replicate (x1 : Int).toNat 0 : List Int)).bind fun y174 => (octets_Put.l0 k x0 x1 y174 (y174.length : Int) 0)) else (none)) else (none))
def octets_Put.l0 : Nat → Int → Int → List Int → Int → Int → Option (ByteArray × Int)
 | 0, _, _, _, _, _ => none
 | k + 1, x0, x1, x6, x28, x29 => if x29 < x28 then (if 0 ≤ (wrap64 (8 * x29)) then (if 0 ≤ (wrap64 ((wrap64 (x1 - 1)) - x29)) then (if (wrap64 ((wrap64 (x1 - 1)) - x29)) < (x6.length : Int) then (octets_Put.l0 k x0 x1 (x6.set ((wrap64 ((wrap64 (x1 - 1)) - x29)) : Int).toNat ((shr .u64 x0 (wrap64 (8 * x29))) % 256)) x28 (wrap64 (x29 + 1))) else (none)) else (none)) else (none)) else (some (strOfNums x6, 0))
end
def octets_Put.f (k : Nat) (a0 : Int) (a1 : Int) : Option (ByteArray × Int) := if a1 < 1 then (octets_Put.j0 k a0 a1 true) else (if a1 > 8 then (octets_Put.j0 k a0 a1 true) else (if a1 < 8 then (if 0 ≤ (wrap64 (8 * a1)) then (octets_Put.j0 k a0 a1 ((shr .u64 a0 (wrap64 (8 * a1))) != 0)) else (none)) else (octets_Put.j0 k a0 a1 false)))
theorem octets_Put.mono_l : ∀ k, (∀ y0 y1 y2, LeO (octets_Put.j0 k y0 y1 y2) (octets_Put.j0 (k + 1) y0 y1 y2)) ∧ (∀ y0 y1 y2 y3 y4, LeO (octets_Put.l0 k y0 y1 y2 y3 y4) (octets_Put.l0 (k + 1) y0 y1 y2 y3 y4))
 | 0 => ⟨fun _ _ _ r h => by simp [octets_Put.j0] at h, fun _ _ _ _ _ r h => by simp [octets_Put.l0] at h⟩
 | k + 1 => by
  obtain ⟨ih0, ih1⟩ := octets_Put.mono_l k
  refine ⟨?_, ?_⟩
  ·intro y0 y1 y2
   unfold octets_Put.j0
   repeat' first
   | (with_reducible exact ih0 _ _ _)
   | (with_reducible exact ih1 _ _ _ _ _)
   | (with_reducible exact LeO.refl _)
   | (with_reducible exact LeO.none _)
   | (with_reducible refine LeO.ite ?_ ?_)
   | (with_reducible refine LeO.bind ?_ (fun _ => ?_))
   | exact ih0 _ _ _
   | exact ih1 _ _ _ _ _
   | exact LeO.none _
   | refine LeO.ite ?_ ?_
   | refine LeO.bind ?_ (fun _ => ?_)
  ·intro y0 y1 y2 y3 y4
   unfold octets_Put.l0
   repeat' first
   | (with_reducible exact ih0 _ _ _)
   | (with_reducible exact ih1 _ _ _ _ _)
   | (with_reducible exact LeO.refl _)
   | (with_reducible exact LeO.none _)
   | (with_reducible refine LeO.ite ?_ ?_)
   | (with_reducible refine LeO.bind ?_ (fun _ => ?_))
   | exact ih0 _ _ _
   | exact ih1 _ _ _ _ _
   | exact LeO.none _
   | refine LeO.ite ?_ ?_
   | refine LeO.bind ?_ (fun _ => ?_)
theorem octets_Put.mono : ∀ a0 a1 k, LeO (octets_Put.f k a0 a1) (octets_Put.f (k + 1) a0 a1) := by
 intro a0 a1 k
 obtain ⟨ih0, ih1⟩ := octets_Put.mono_l k
 unfold octets_Put.f
 repeat' first
   | (with_reducible exact ih0 _ _ _)
   | (with_reducible exact ih1 _ _ _ _ _)
   | (with_reducible exact LeO.refl _)
   | (with_reducible exact LeO.none _)
   | (with_reducible refine LeO.ite ?_ ?_)
   | (with_reducible refine LeO.bind ?_ (fun _ => ?_))
   | exact ih0 _ _ _
   | exact ih1 _ _ _ _ _
   | exact LeO.none _
   | refine LeO.ite ?_ ?_
   | refine LeO.bind ?_ (fun _ => ?_)
theorem z15_0 {p : Prop} (h : p := by
 go_wp2
 go_ret2
 exact ⟨qxu5, qpag⟩) : p := h
theorem z15_1 {p : Prop} (h : p := by
 have H' := Aside0.mk H
 clear H
 go_wp2
 go_meet
 case rel => exact ⟨_, (true), q8z4, H', ⟨qpfc⟩, ⟨qpag⟩⟩) : p := h
set_option maxHeartbeats 8000000 in
set_option maxRecDepth 100000 in
theorem octets_Put.calls (k : Nat) (a0 : Int) (a1 : Int) (r1 : ByteArray) (r2 : Int) (w : World) (h : octets_Put.f k a0 a1 = some (r1, r2)) :
  Calls Tryd.prog 47 #[.int .u64 a0, .int .i64 a1] w fun e w' => e = .returned (.tuple #[.string r1, .int .i64 r2]) ∧ Below w.heap.size w w' := by
 have HB := Aside0.mk (Below.refl w.heap.size w)
 have H : (if a1 < 1 then (octets_Put.j0 k a0 a1 true) else (if a1 > 8 then (octets_Put.j0 k a0 a1 true) else (if a1 < 8 then (if 0 ≤ (wrap64 (8 * a1)) then (octets_Put.j0 k a0 a1 ((shr .u64 a0 (wrap64 (8 * a1))) != 0)) else (none)) else (octets_Put.j0 k a0 a1 false)))) = some (r1, r2) := h
 clear h
 have HC3 := Aside0.mk H
 clear H
 go_enter Tryd.func47, Tryd.ntmps47
 go_upto_region 1 with (fail)
 go_cut [24] (fun v24 wc => ∃ (kq : Nat) (x24_2 : Bool), v24 = .bool x24_2 ∧ Aside0 (octets_Put.j0 kq a0 a1 x24_2 = some (r1, r2)) ∧ Aside0 (kq ≤ k) ∧ Aside0 (Below w.heap.size w wc))
 case first =>
  have H := HC3.out
  clear HC3
  by_cases c4 : a1 < 1
  ·rw [if_pos c4] at H
   have c4b0 : decide (a1 < 1) = true := decide_eq_true c4
   clear c4
   (first | rw [c4b0] | (simp only [i64_w, i32_w]; rw [c4b0]) | skip)
   exact z15_1
  ·rw [if_neg c4] at H
   have c4b0 : decide (a1 < 1) = false := decide_eq_false c4
   clear c4
   (first | rw [c4b0] | (simp only [i64_w, i32_w]; rw [c4b0]) | skip)
   by_cases c5 : a1 > 8
   ·rw [if_pos c5] at H
    have c5b0 : decide (8 < a1) = true := decide_eq_true c5
    clear c5
    exact z15_1
   ·rw [if_neg c5] at H
    have c5b0 : decide (8 < a1) = false := decide_eq_false c5
    clear c5
    by_cases c6 : a1 < 8
    ·rw [if_pos c6] at H
     have c6b0 : decide (a1 < 8) = true := decide_eq_true c6
     clear c6
     obtain ⟨ji7, hji7⟩ : ∃ j_ : Int, (wrap64 (8 * a1)) = j_ := ⟨_, rfl⟩
     replace H : (if 0 ≤ (ji7) then (octets_Put.j0 k a0 a1 ((shr .u64 a0 (ji7)) != 0)) else (none)) = some (r1, r2) := by first | (rw [hji7] at H; exact H) | (simp only [hji7] at H ⊢; exact H)
     have hji7w : (IntKind.i64.wrap (8 * a1)) = ji7 := (i64_w _).trans hji7
     by_cases c8 : 0 ≤ (ji7)
     ·rw [if_pos c8] at H
      have c8b0 := eq_true c8
      have c8b1 : decide (0 ≤ (ji7)) = true := decide_eq_true c8
      clear c8
      obtain ⟨ji9, hji9⟩ : ∃ j_ : Int, (shr .u64 a0 (ji7)) = j_ := ⟨_, rfl⟩
      replace H : (octets_Put.j0 k a0 a1 ((ji9) != 0)) = some (r1, r2) := by first | (rw [hji9] at H; exact H) | (simp only [hji9] at H ⊢; exact H)
      have hji9_ : (a0 / 2 ^ min (ji7).toNat 64) = ji9 := hji9
      have hji9z : (ji7) ≤ 64 → (a0 / 2 ^ (ji7).toNat) = ji9 := shr_small hji9
      have H' := Aside0.mk H
      clear H
      go_wp2
      go_meet
      case rel => exact ⟨_, (((ji9) != 0)), (by first | rfl | (simp; done) | (simp only [← hji9] <;> (first | rfl | simp)) | (simp [*]; done)), H', ⟨qpfc⟩, ⟨qpag⟩⟩
     ·rw [if_neg c8] at H
      exact absurd H q6hr
    ·rw [if_neg c6] at H
     have c6b0 : decide (a1 < 8) = false := decide_eq_false c6
     clear c6
     have H' := Aside0.mk H
     clear H
     go_wp2
     go_meet
     case rel => exact ⟨_, (false), q8z4, H', ⟨qpfc⟩, ⟨qpag⟩⟩
 case rest =>
  clear HC3
  try clear p2
  try clear c4
  try clear c4b0
  try clear c5
  try clear c5b0
  try clear c6
  try clear c6b0
  try clear p6
  try clear c8
  try clear c8b0
  try clear c8b1
  obtain ⟨kq, x24_2, rfl, HA, HJ2, HB⟩ := hcut
  cases kq with
  | zero => exact absurd HA.out (by simp [octets_Put.j0])
  | succ kj2 =>
   have H := HA.out
   clear HA
   simp only [octets_Put.j0] at H
   by_cases c10 : x24_2 = true
   ·subst c10
    rw [if_pos rfl] at H
    simp only [Option.some.injEq, Prod.mk.injEq] at H
    obtain ⟨rfl, rfl⟩ := H
    exact z15_0
   ·replace c10 := Bool.eq_false_iff.mpr c10
    subst c10
    rw [if_neg (show ¬ (false = true) by decide)] at H
    by_cases c11 : 0 ≤ a1
    ·rw [if_pos c11] at H
     have c11b0 := eq_true c11
     have c11b1 : decide (0 ≤ a1) = true := decide_eq_true c11
     clear c11
     by_cases c12 : (a1 : Int).toNat ≤ 281474976710656
     ·rw [if_pos c12] at H
      have c12b0 := eq_true c12
      have c12b1 : decide ((a1 : Int).toNat ≤ 281474976710656) = true := decide_eq_true c12
      clear c12
      obtain ⟨y174, hy174⟩ : ∃ y_ : List Int, y_ = (List.replicate (a1 : Int).toNat 0) := ⟨_, rfl⟩
      replace H : (octets_Put.l0 kj2 a0 a1 y174 (y174.length : Int) 0) = some (r1, r2) := by first | (rw [hy174]; with_reducible exact H) | (have H2_ := (Option.bind_some _ _).symm.trans H; rw [hy174]; with_reducible exact H2_) | (have H2_ := (Option.bind_some _ _).symm.trans H; with_reducible exact H2_) | with_reducible exact H | (rw [hy174]; exact H) | exact H
      have Ny174 := Aside0.mk hy174
      clear hy174
      have H' := Aside0.mk H
      clear H
      go_wp2_with (first | ((with_reducible refine gate_dst (N := 26) rfl ?_); refine Kd.R_make (Kd.int .u8) _ 5 rfl (N := 26) rfl 48 _ _ rfl a1 rfl rfl Tryd.underlying48 (.int .u8 0) 1 info5 rfl qomw q1jy 0 (ok := fun _ => True) (okp := fun _ => True) rfl (fun _ hk => hk) trivial (of_decide_eq_true qlss) (Nat.le_trans (Nat.mul_le_mul_right _ (of_decide_eq_true qlss : a1.toNat ≤ 281474976710656)) q1jy) (Below.refl _ _) (Nat.le_refl _) ?_; intro v175 w13 ho14 hb hg_ hnew_; clear hg_ hnew_; (first | rw [← Ny174.out] at ho14 | (simp only [Int.reduceToNat] at ho14; rw [← Ny174.out] at ho14)); have HO176 := Aside0.mk (Kd.R_lower ho14 (below_size qpag)); replace HB := Aside0.mk (below_step qpag hb); clear hb ho14; obtain ⟨Ao15, co15, eo15⟩ := Kd.R_slice HO176.out; subst eo15))
      go_loopg [29] kj2 (fun kq v29 w' => ∃ (x6_2 : List Int) (x29_2 : Int), v29 = .int .i64 x29_2 ∧ Aside0 (octets_Put.l0 kq a0 a1 x6_2 (y174.length : Int) x29_2 = some (r1, r2)) ∧ Aside0 (kq ≤ kj2) ∧ Aside0 (Kd.R (Kd.int .u8) 5 w' w.heap.size (fun _ => True) (.slice Ao15 y174.length co15) x6_2) ∧ Aside0 (Below w.heap.size w w'))
      case atStart => exact ⟨(y174), (0), q8z4, H', ⟨Nat.le_refl _⟩, ⟨(by (with_reducible repeat (first | apply Kd.R_alloc | apply Kd.R_drewN | apply Kd.R_drew)); exact HO176.out)⟩, ⟨qpag⟩⟩
      case round =>
       clear H'
       try clear c1
       try clear p2
       try clear c4
       try clear c4b0
       try clear c5
       try clear c5b0
       try clear c6
       try clear c6b0
       try clear p6
       try clear c8
       try clear c8b0
       try clear c8b1
       try clear c10
       try clear c11
       try clear c11b0
       try clear c11b1
       try clear c12
       try clear c12b0
       try clear c12b1
       try clear p2
       try clear p6
       obtain ⟨x6_2, x29_2, rfl, HA, HK2, HO_6, HB⟩ := hrel
       have hl6_2 := (Kd.R_reads' HO_6.out).1
       rw [hl6_2] at HO_6
       (try simp only [hl6_2])
       cases gk with
       | zero => exact absurd HA.out (by simp [octets_Put.l0])
       | succ k2 =>
        have H := HA.out
        clear HA
        simp only [octets_Put.l0] at H
        by_cases c16 : x29_2 < (y174.length : Int)
        ·rw [if_pos c16] at H
         have c16b0 : decide (x29_2 < (y174.length : Int)) = true := decide_eq_true c16
         first | (have c16b0l : decide (x29_2 < ((x6_2 : List Int).length : Int)) = true := by rw [← hl6_2]; exact c16b0) | skip
         clear c16
         obtain ⟨ji17, hji17⟩ : ∃ j_ : Int, (wrap64 (8 * x29_2)) = j_ := ⟨_, rfl⟩
         replace H : (if 0 ≤ (ji17) then (if 0 ≤ (wrap64 ((wrap64 (a1 - 1)) - x29_2)) then (if (wrap64 ((wrap64 (a1 - 1)) - x29_2)) < (x6_2.length : Int) then (octets_Put.l0 k2 a0 a1 (x6_2.set ((wrap64 ((wrap64 (a1 - 1)) - x29_2)) : Int).toNat ((shr .u64 a0 (ji17)) % 256)) (y174.length : Int) (wrap64 (x29_2 + 1))) else (none)) else (none)) else (none)) = some (r1, r2) := by first | (rw [hji17] at H; exact H) | (simp only [hji17] at H ⊢; exact H)
         have hji17w : (IntKind.i64.wrap (8 * x29_2)) = ji17 := (i64_w _).trans hji17
         by_cases c18 : 0 ≤ (ji17)
         ·rw [if_pos c18] at H
          have c18b0 := eq_true c18
          have c18b1 : decide (0 ≤ (ji17)) = true := decide_eq_true c18
          clear c18
          obtain ⟨ji19, hji19⟩ : ∃ j_ : Int, (shr .u64 a0 (ji17)) = j_ := ⟨_, rfl⟩
          replace H : (if 0 ≤ (wrap64 ((wrap64 (a1 - 1)) - x29_2)) then (if (wrap64 ((wrap64 (a1 - 1)) - x29_2)) < (x6_2.length : Int) then (octets_Put.l0 k2 a0 a1 (x6_2.set ((wrap64 ((wrap64 (a1 - 1)) - x29_2)) : Int).toNat ((ji19) % 256)) (y174.length : Int) (wrap64 (x29_2 + 1))) else (none)) else (none)) = some (r1, r2) := by first | (rw [hji19] at H; exact H) | (simp only [hji19] at H ⊢; exact H)
          have hji19_ : (a0 / 2 ^ min (ji17).toNat 64) = ji19 := hji19
          have hji19z : (ji17) ≤ 64 → (a0 / 2 ^ (ji17).toNat) = ji19 := shr_small hji19
          obtain ⟨ji20, hji20⟩ : ∃ j_ : Int, (wrap64 ((wrap64 (a1 - 1)) - x29_2)) = j_ := ⟨_, rfl⟩
          replace H : (if 0 ≤ (ji20) then (if (ji20) < (x6_2.length : Int) then (octets_Put.l0 k2 a0 a1 (x6_2.set ((ji20) : Int).toNat ((ji19) % 256)) (y174.length : Int) (wrap64 (x29_2 + 1))) else (none)) else (none)) = some (r1, r2) := by first | (rw [hji20] at H; exact H) | (simp only [hji20] at H ⊢; exact H)
          have hji20w : (IntKind.i64.wrap ((wrap64 (a1 - 1)) - x29_2)) = ji20 := (i64_w _).trans hji20
          by_cases c21 : 0 ≤ (ji20)
          ·rw [if_pos c21] at H
           have c21b0 : decide (0 ≤ (ji20)) = true := decide_eq_true c21
           clear c21
           by_cases c22 : (ji20) < (x6_2.length : Int)
           ·rw [if_pos c22] at H
            have c22b0 : decide ((ji20) < (x6_2.length : Int)) = true := decide_eq_true c22
            clear c22
            obtain ⟨y177, hy177⟩ : ∃ y_ : List Int, y_ = (x6_2.set ((ji20) : Int).toNat ((ji19) % 256)) := ⟨_, rfl⟩
            replace H : (octets_Put.l0 k2 a0 a1 y177 (y174.length : Int) (wrap64 (x29_2 + 1))) = some (r1, r2) := by first | (rw [hy177]; with_reducible exact H) | (have H2_ := (Option.bind_some _ _).symm.trans H; rw [hy177]; with_reducible exact H2_) | (have H2_ := (Option.bind_some _ _).symm.trans H; with_reducible exact H2_) | with_reducible exact H | (rw [hy177]; exact H) | exact H
            have Ny177 := Aside0.mk hy177
            clear hy177
            have H' := Aside0.mk H
            clear H
            have p23 : 0 ≤ ((ji20) : Int) := of_decide_eq_true qlss
            have q23 : ((ji20) : Int) < ((x6_2.length : Int) : Int) := of_decide_eq_true qlss
            obtain ⟨go23, co23, eo23, gb23, gl23, cl23, HG23⟩ := Kd.R_form HO_6.out q1jy
            (first | cases eo23 | (injection eo23 with ea_ en_ ec_; (first | subst ea_ | (injection ea_ with ea_; subst ea_)); subst ec_; clear en_))
            have GB23 := Aside0.mk gb23
            have GG23 := Aside0.mk HG23
            clear gb23 gl23 HG23
            obtain ⟨hx23_0, hf23_0⟩ := Kd.R_celln 0 HO_6.out ((ji20) : Int) p23 q23
            replace p23 := eq_true p23
            replace q23 := eq_true q23
            have HP24 := Kd.R_putg HO_6.out ((ji20) : Int) ((ji19) % 256)
            go_wp2_with (first | ((with_reducible refine gate_store (t := 5) (p := 42) rfl ?_); refine store_event (t := 5) (p := 42) (v := ?vo_w25) (w1 := (wr.setCell ⟨go23, ((ji20) : Int).toNat, none⟩ (.int .u8 ((ji19) % 256)))) ?hg ?ho ?hn ?hr ?_; (case ho => rfl); (case hg => rfl); (case hn => rfl); (case hr => first | (go_simp; done) | (go_simp; rfl)); intro w25 hw; have hg : wr.grownBy w25 (some go23) := (by rw [hw]; exact HP24.2); have hp_ : Kd.R (Kd.int .u8) 5 w25 w.heap.size (fun _ => True) (.slice (some ⟨go23, 0, none⟩) x6_2.length co15) y177 := (by rw [hw, Ny177.out]; exact HP24.1); clear HP24; replace HO_6 := Aside0.mk (hp_); replace HB := Aside0.mk ((by rw [hw]; exact below_set (HB.out) GB23.out : Below w.heap.size w w25)); clear hg hw hp_))
            (try simp only [← hl6_2])
            go_roundg k2
            case measure => have := HJ2.out; have := HK2.out; omega
            case rel => exact ⟨(y177), (wrap64 (x29_2 + 1)), q8z4, H', ⟨(by have := HJ2.out; have := HK2.out; omega)⟩, ⟨(by (try simp only [hl6_2]); (with_reducible repeat (first | apply Kd.R_alloc | apply Kd.R_drewN | apply Kd.R_drew)); exact HO_6.out)⟩, ⟨qpag⟩⟩
           ·rw [if_neg c22] at H
            exact absurd H q6hr
          ·rw [if_neg c21] at H
           exact absurd H q6hr
         ·rw [if_neg c18] at H
          exact absurd H q6hr
        ·rw [if_neg c16] at H
         have c16b0 : decide (x29_2 < (y174.length : Int)) = false := decide_eq_false c16
         first | (have c16b0l : decide (x29_2 < ((x6_2 : List Int).length : Int)) = false := by rw [← hl6_2]; exact c16b0) | skip
         clear c16
         simp only [Option.some.injEq, Prod.mk.injEq] at H
         obtain ⟨rfl, rfl⟩ := H
         have hcv26 := own_string (P := Tryd.prog) Tryd.underlying48 Tryd.underlying5 Tryd.underlying9 (Kd.own_of_R HO_6.out)
         exact z15_0
     ·rw [if_neg c12] at H
      exact absurd H q6hr
    ·rw [if_neg c11] at H
     exact absurd H q6hr
end Go.Proofs.YtbkgaplldfilnaaDoor.P
