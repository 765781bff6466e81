-- slim
-- Written by wip/hprint.py (this session's program) through the kit's print program; hand contracts are marked 'by hand'.
import Derived.Test.YtbkgaplldfilnaaDoorAbb
import Derived.Test.YtbkgaplldfilnaaDoorProg
import Derived.Below
import Derived.Deep.Draws
import Derived.Deep.AppendLies
import Derived.Maps.AppendAt
import Derived.OwnWalk
import Derived.Laws.BytesArg
import Derived.Laws.MakeOwn
import Derived.Laws.OwnMore
import Derived.Deep.OwnRows
import Derived.Tactics
import Derived.Lib.ConvBytes
import Derived.Laws.Slices
import Derived.WalkKit
import Derived.KernelRfl
import Derived.RowKit3
import Derived.Deep.LoopGhost
import Derived.Deep.QuietTactic
import Derived.BigQuiet
import Derived.WideLaws
import Derived.Deep.DeepCutAuto
import Derived.Deep.CutBlock
import Derived.Deep.RegionHeld3
import Derived.Laws.Rows
import Derived.Lib.AppendStr
import Derived.ArgAppend
import Derived.Laws.IdiomCopy
import Derived.OrdersHeld
import Derived.Laws.BitsLemmas
import Derived.RowKit
import Derived.Test.YtbkgaplldfilnaaDoorAsOdd
import Derived.Test.YtbkgaplldfilnaaDoorAsWhile
import Derived.Test.YtbkgaplldfilnaaDoorShelf
import Derived.Test.YtbkgaplldfilnaaDoorWWords
import Derived.Test.YtbkgaplldfilnaaDoorWLast
import Derived.Test.YtbkgaplldfilnaaDoorWTab
import Derived.Test.YtbkgaplldfilnaaDoorWFour
import Derived.Test.YtbkgaplldfilnaaDoorWQPut
import Derived.Test.YtbkgaplldfilnaaDoorWApart
import Derived.Test.YtbkgaplldfilnaaDoorWArr
import Derived.Test.YtbkgaplldfilnaaDoorWZeros
import Derived.Test.YtbkgaplldfilnaaDoorWFoot
import Derived.Test.YtbkgaplldfilnaaDoorWKept
import Derived.Test.YtbkgaplldfilnaaDoorWShare
import Derived.Test.YtbkgaplldfilnaaDoorWN
import Derived.Test.YtbkgaplldfilnaaDoorWFootNe
import Derived.Test.YtbkgaplldfilnaaDoorWAt
import Derived.Test.YtbkgaplldfilnaaDoorWEqStruct
import Derived.Test.YtbkgaplldfilnaaDoorWRepsOne
import Derived.Test.YtbkgaplldfilnaaDoorWInv
import Derived.Test.YtbkgaplldfilnaaDoorWInvWords
import Derived.Test.YtbkgaplldfilnaaDoorWGuard
import Derived.Test.YtbkgaplldfilnaaDoorWNEv
import Derived.Test.YtbkgaplldfilnaaDoorWMore
namespace Go.Proofs.YtbkgaplldfilnaaDoor.P
open Go.RowKit Go.Proofs.YtbkgaplldfilnaaDoorW.PrintWords Go.Proofs.YtbkgaplldfilnaaDoorW.PrintLast Go.Proofs.YtbkgaplldfilnaaDoorW.PrintMore
attribute [local go_sem] max2_int min2_int max_two min_two max_three min_three max_four min_four   -- for this text's walks alone
set_option linter.unusedVariables false
set_option linter.unusedSimpArgs false



def errT_ (c : Int) : TypeId := if c < 1000 then 140 else 104
def errP_ (c : Int) : Value := if c < 1000 then .agg #[.int .i64 c] else .agg #[.string (if c < 2000 then (⟨#[102, 114, 97, 109, 101]⟩ : ByteArray) else (if c < 3000 then (⟨#[112, 97, 99, 107, 101, 116]⟩ : ByteArray) else (⟨#[100, 97, 116, 97, 103, 114, 97, 109]⟩ : ByteArray))), .iface 58 (.agg #[.int .i64 (c % 1000)])]
def errW : Option Int → Value
 | none => .nilIface
 | some c => .iface (errT_ c) (errP_ c)
theorem errW_none : errW none = .nilIface := rfl
theorem errW_some (c : Int) : errW (some c) = .iface (errT_ c) (errP_ c) := rfl

theorem info5 : (Tryd.prog.info? 5).map (fun i => (i.zero, i.size, i.bytes)) = some (some (.int .u8 0), 1, 1) := by kernel_rfl
attribute [local go_sem] max2_int min2_int max_two min_two max_three min_three max_four min_four   -- for this text's walks alone
set_option linter.unusedVariables false
set_option linter.unusedSimpArgs false

/-! ### csum_fold: function 79 -/
def csum_fold.l0 : Nat → Int → Option (Int)
 | 0, _ => none
 | k + 1, x0 => if x0 > 65535 then (csum_fold.l0 k (wrap64 ((Go.bits .and .i64 x0 65535) + (x0 / 65536)))) else (some x0)
def csum_fold.f (k : Nat) (a0 : Int) : Option (Int) := csum_fold.l0 k a0
theorem csum_fold.mono_l : ∀ k, (∀ y0, LeO (csum_fold.l0 k y0) (csum_fold.l0 (k + 1) y0))
 | 0 => fun _ r h => by simp [csum_fold.l0] at h
 | k + 1 => by
  have ih0 := csum_fold.mono_l k
  ·intro y0
   unfold csum_fold.l0
   repeat' first
   | (with_reducible exact ih0 _)
   | (with_reducible exact LeO.refl _)
   | (with_reducible exact LeO.none _)
   | (with_reducible refine LeO.ite ?_ ?_)
   | (with_reducible refine LeO.bind ?_ (fun _ => ?_))
   | exact ih0 _
   | exact LeO.none _
   | refine LeO.ite ?_ ?_
   | refine LeO.bind ?_ (fun _ => ?_)
theorem csum_fold.mono : ∀ a0 k, LeO (csum_fold.f k a0) (csum_fold.f (k + 1) a0) := by
 intro a0 k
 have ih0 := csum_fold.mono_l k
 unfold csum_fold.f
 repeat' first
   | (with_reducible exact ih0 _)
   | (with_reducible exact LeO.refl _)
   | (with_reducible exact LeO.none _)
   | (with_reducible refine LeO.ite ?_ ?_)
   | (with_reducible refine LeO.bind ?_ (fun _ => ?_))
   | exact ih0 _
   | exact LeO.none _
   | refine LeO.ite ?_ ?_
   | refine LeO.bind ?_ (fun _ => ?_)
set_option maxHeartbeats 8000000 in
set_option maxRecDepth 100000 in
theorem csum_fold.calls (k : Nat) (a0 : Int) (r : Int) (w : World) (h : csum_fold.f k a0 = some r) :
  Calls Tryd.prog 79 #[.int .i64 a0] w fun e w' => e = .returned (.int .i64 r) ∧ Drawn0 w w' := by
 have H := h
 unfold csum_fold.f at H
 clear h
 have H' := Aside0.mk H
 clear H
 go_enter Tryd.func79, Tryd.ntmps79
 go_wp2
 go_loopg [0] k (fun kq v0 w' => ∃ (x0_1 : Int), v0 = .int .i64 x0_1 ∧ Aside0 (csum_fold.l0 kq x0_1 = some r) ∧ Aside0 (kq ≤ k) ∧ Drawn0 w w')
 case atStart => exact ⟨(a0), q8z4, H', ⟨Nat.le_refl _⟩, qlmv⟩
 case round =>
  clear H'
  obtain ⟨x0_1, rfl, HA, HK1, ⟨m1, rfl⟩⟩ := hrel
  cases gk with
  | zero => exact absurd HA.out (by simp [csum_fold.l0])
  | succ k1 =>
   have H := HA.out
   clear HA
   simp only [csum_fold.l0] at H
   by_cases c2 : x0_1 > 65535
   ·rw [if_pos c2] at H
    have c2b0 : decide (65535 < x0_1) = true := decide_eq_true c2
    clear c2
    have H' := Aside0.mk H
    clear H
    go_wp2
    go_roundg k1
    case measure => have := HK1.out; omega
    case rel => exact ⟨(wrap64 ((Go.bits .and .i64 x0_1 65535) + (x0_1 / 65536))), q8z4, H', ⟨(by have := HK1.out; omega)⟩, qlmv⟩
   ·rw [if_neg c2] at H
    have c2b0 : decide (65535 < x0_1) = false := decide_eq_false c2
    clear c2
    obtain rfl := Option.some.inj H
    go_wp2
    go_ret
    exact ⟨q8z4, qlmv⟩

attribute [local go_sem] max2_int min2_int max_two min_two max_three min_three max_four min_four   -- for this text's walks alone
set_option linter.unusedVariables false
set_option linter.unusedSimpArgs false

theorem eqA31 (d : Nat) (w : World) (x0 y0 : Int) (x1 y1 : Int) (x2 y2 : Bool) (x3 y3 : ByteArray) :
  (Op.equalIn (d + 2) 31 (.agg #[.int .i64 x0, .int .i64 x1, .bool x2, .string x3]) (.agg #[.int .i64 y0, .int .i64 y1, .bool y2, .string y3])).run Tryd.prog w = .ok (x0 == y0 && (x1 == y1 && (x2 == y2 && (x3.toList == y3.toList)))) w := by
 refine eqA_of Tryd.underlying31 qg3m ?_
 refine eqf_cons qgcr qk3u qk3u (by go_simp) ?_
 refine eqf_cons qgcr qk3u qk3u (by go_simp) ?_
 refine eqf_cons qgcr qk3u qk3u (by go_simp) ?_
 exact eqf_last qgcr qk3u qk3u (by go_simp)
theorem eqA33 (d : Nat) (w : World) (x0 y0 : Int) (x1 y1 : Int) (x2 y2 : Int) (x3 y3 : Int) (x4 y4 : Bool) (x5 y5 : ByteArray) :
  (Op.equalIn (d + 3) 33 (.agg #[.int .i64 x0, .int .u32 x1, .int .i64 x2, .int .i64 x3, .bool x4, .string x5]) (.agg #[.int .i64 y0, .int .u32 y1, .int .i64 y2, .int .i64 y3, .bool y4, .string y5])).run Tryd.prog w = .ok (x0 == y0 && (x1 == y1 && ((x2 == y2 && (x3 == y3 && (x4 == y4 && (x5.toList == y5.toList))))))) w := by
 refine eqA_of Tryd.underlying33 qg3m ?_
 refine eqf_cons qgcr qk3u qk3u (by go_simp) ?_
 refine eqf_cons qgcr qk3u qk3u (by go_simp) ?_
 exact eqf_last qgcr (by go_simp) (by go_simp) (eqA31 (d + 0) w _ _ _ _ _ _ _ _)
attribute [local go_sem] max2_int min2_int max_two min_two max_three min_three max_four min_four   -- for this text's walks alone
set_option linter.unusedVariables false
set_option linter.unusedSimpArgs false

/-! ### inet_get: function 81 -/
def inet_get.f (a0 : ByteArray) (a1 : Int) : Option (Int) := if 0 ≤ a1 then (if a1 < (a0.size : Int) then (if 0 ≤ (wrap64 (a1 + 1)) then (if (wrap64 (a1 + 1)) < (a0.size : Int) then (some (Go.bits .or .i64 (wrap64 ((wrap64 (bt a0 a1)) * 256)) (wrap64 (bt a0 (wrap64 (a1 + 1)))))) else (none)) else (none)) else (none)) else (none)
set_option maxHeartbeats 8000000 in
set_option maxRecDepth 100000 in
theorem inet_get.calls (a0 : ByteArray) (a1 : Int) (r : Int) (w : World) (h : inet_get.f a0 a1 = some r) :
  Calls Tryd.prog 81 #[.string a0, .int .i64 a1] w fun e w' => e = .returned (.int .i64 r) ∧ Drawn0 w w' := by
 have H := h
 unfold inet_get.f at H
 clear h
 by_cases c3 : 0 ≤ a1
 ·rw [if_pos c3] at H
  have c3b0 : decide (0 ≤ a1) = true := decide_eq_true c3
  clear c3
  by_cases c4 : a1 < (a0.size : Int)
  ·rw [if_pos c4] at H
   have c4b0 : decide (a1 < (a0.size : Int)) = true := decide_eq_true c4
   clear c4
   obtain ⟨ji6, hji6⟩ : ∃ j_ : Int, (wrap64 (a1 + 1)) = j_ := ⟨_, rfl⟩
   replace H : (if 0 ≤ (ji6) then (if (ji6) < (a0.size : Int) then (some (Go.bits .or .i64 (wrap64 ((wrap64 (bt a0 a1)) * 256)) (wrap64 (bt a0 (ji6))))) else (none)) else (none)) = some r := by first | (rw [hji6] at H; exact H) | (simp only [hji6] at H ⊢; exact H)
   have hji6w : (IntKind.i64.wrap (a1 + 1)) = ji6 := (i64_w _).trans hji6
   by_cases c7 : 0 ≤ (ji6)
   ·rw [if_pos c7] at H
    have c7b0 : decide (0 ≤ (ji6)) = true := decide_eq_true c7
    clear c7
    by_cases c8 : (ji6) < (a0.size : Int)
    ·rw [if_pos c8] at H
     have c8b0 : decide ((ji6) < (a0.size : Int)) = true := decide_eq_true c8
     clear c8
     obtain rfl := Option.some.inj H
     have p5 : 0 ≤ (a1 : Int) := of_decide_eq_true qlss
     have q5 : a1 < (a0.size : Int) := of_decide_eq_true qlss
     have hx5 := bt_at a0 a1
     replace p5 := eq_true p5
     replace q5 := eq_true q5
     have p9 : 0 ≤ ((ji6) : Int) := of_decide_eq_true qlss
     have q9 : (ji6) < (a0.size : Int) := of_decide_eq_true qlss
     have hx9 := bt_at a0 (ji6)
     replace p9 := eq_true p9
     replace q9 := eq_true q9
     go_enter Tryd.func81, Tryd.ntmps81
     go_wp2
     repeat (go_quiet (fail); try go_wp2)
     go_ret
     exact ⟨(by first | rfl | (simp; done) | (simp only [← hji6] <;> (first | rfl | simp)) | (simp [*]; done)), qlmv⟩
    ·rw [if_neg c8] at H
     exact absurd H q6hr
   ·rw [if_neg c7] at H
    exact absurd H q6hr
  ·rw [if_neg c4] at H
   exact absurd H q6hr
 ·rw [if_neg c3] at H
  exact absurd H q6hr

attribute [local go_sem] max2_int min2_int max_two min_two max_three min_three max_four min_four   -- for this text's walks alone
set_option linter.unusedVariables false
set_option linter.unusedSimpArgs false

/-! ### station_not: function 27, by hand -/
def station_not.f (a0 : ByteArray) (a1 : Int) : Option (Option Int) :=
 if 0 ≤ a1 then (if a1 < 1000 then (if a0 = (⟨#[102, 114, 97, 109, 101]⟩ : ByteArray) then some (some (1000 + a1)) else (if a0 = (⟨#[112, 97, 99, 107, 101, 116]⟩ : ByteArray) then some (some (2000 + a1)) else (if a0 = (⟨#[100, 97, 116, 97, 103, 114, 97, 109]⟩ : ByteArray) then some (some (3000 + a1)) else none))) else none) else none
theorem errW_at_ (j n : Int) (h0 : 0 ≤ n) (h1 : n < 1000) (hj : 1 ≤ j) (s : ByteArray) (hs : (if 1000 * j + n < 2000 then (⟨#[102, 114, 97, 109, 101]⟩ : ByteArray) else (if 1000 * j + n < 3000 then (⟨#[112, 97, 99, 107, 101, 116]⟩ : ByteArray) else (⟨#[100, 97, 116, 97, 103, 114, 97, 109]⟩ : ByteArray))) = s) :
  errW (some (1000 * j + n)) = .iface 104 (.agg #[.string s, .iface 58 (.agg #[.int .i64 n])]) := by
 rw [errW_some]
 unfold errT_ errP_
 rw [if_neg q1jy, if_neg q1jy, hs, show (1000 * j + n) % 1000 = n by omega]
theorem station_not.calls (a0 : ByteArray) (a1 : Int) (r : Option Int) (w : World) (h : station_not.f a0 a1 = some r) :
  Calls Tryd.prog 27 #[.string a0, .int .i64 a1] w fun e w' => e = .returned (errW r) ∧ Drawn0 w w' := by
 have key : errW r = .iface 104 (.agg #[.string a0, .iface 58 (.agg #[.int .i64 a1])]) := by
  unfold station_not.f at h
  split at h
  ·split at h
   ·rename_i h0 h1
    split at h
    ·rename_i h2
     cases h
     subst h2
     exact errW_at_ 1 a1 h0 h1 q1jy _ (by rw [if_pos q1jy])
    ·split at h
     ·rename_i h2
      cases h
      subst h2
      exact errW_at_ 2 a1 h0 h1 q1jy _ (by rw [if_neg q1jy, if_pos q1jy])
     ·split at h
      ·rename_i h2
       cases h
       subst h2
       exact errW_at_ 3 a1 h0 h1 q1jy _ (by rw [if_neg q1jy, if_neg q1jy])
      ·cases h
   ·cases h
  ·cases h
 clear h
 go_enter Tryd.func27, Tryd.ntmps27
 go_wp2
 go_ret
 exact ⟨(by rw [key]; rfl), ⟨0, rfl⟩⟩
/-! ### addrs_Group: function 54 -/
def addrs_Group.f (a0 : Int) : Option (Bool) := some ((Go.bits .and .u64 a0 1099511627776) != 0)
set_option maxHeartbeats 8000000 in
set_option maxRecDepth 100000 in
theorem addrs_Group.calls (a0 : Int) (r : Bool) (w : World) (h : addrs_Group.f a0 = some r) :
  Calls Tryd.prog 54 #[.int .u64 a0] w fun e w' => e = .returned (.bool r) ∧ Drawn0 w w' := by
 have H := h
 unfold addrs_Group.f at H
 clear h
 obtain rfl := Option.some.inj H
 go_enter Tryd.func54, Tryd.ntmps54
 go_wp2
 go_ret
 exact ⟨q8z4, qlmv⟩
/-! ### addrs_Own: function 28 -/
def addrs_Own.f (a0 : Int) : Option (Bool) := if a0 = 0 then (some false) else (if a0 < 281474976710656 then ((addrs_Group.f a0).bind fun t101 => (some (!t101))) else (some false))
theorem z3_0 {p : Prop} (h : p := by
 obtain rfl := Option.some.inj H
 go_enter Tryd.func28, Tryd.ntmps28
 go_wp2
 go_ret
 exact ⟨q8z4, qlmv⟩) : p := h
set_option maxHeartbeats 8000000 in
set_option maxRecDepth 100000 in
theorem addrs_Own.calls (a0 : Int) (r : Bool) (w : World) (h : addrs_Own.f a0 = some r) :
  Calls Tryd.prog 28 #[.int .u64 a0] w fun e w' => e = .returned (.bool r) ∧ Drawn0 w w' := by
 have H := h
 unfold addrs_Own.f at H
 clear h
 by_cases c2 : a0 = 0
 ·rw [if_pos c2] at H
  have c2b0 : (a0 == 0) = true := beq_iff_eq.mpr c2
  have c2b1 : (a0 != 0) = false := bne_eq_false_iff_eq.mpr c2
  clear c2
  exact z3_0
 ·rw [if_neg c2] at H
  have c2b0 : (a0 == 0) = false := beq_eq_false_iff_ne.mpr c2
  have c2b1 : (a0 != 0) = true := bne_iff_ne.mpr c2
  by_cases c3 : a0 < 281474976710656
  ·rw [if_pos c3] at H
   have c3b0 : decide (a0 < 281474976710656) = true := decide_eq_true c3
   clear c3
   replace H := Option.bind_eq_some_iff.mp H
   obtain ⟨t101, A40, H⟩ := H
   try dsimp only at H
   have A4 := Aside0.mk A40
   clear A40
   obtain rfl := Option.some.inj H
   go_enter Tryd.func28, Tryd.ntmps28
   go_wp2_with (first | (go_at_call 54; (with_reducible refine (addrs_Group.calls a0 t101 _ A4.out).mono ?_); rintro e w' ⟨rfl, ⟨nd, rfl⟩⟩))
   go_ret
   exact ⟨q8z4, qlmv⟩
  ·rw [if_neg c3] at H
   have c3b0 : decide (a0 < 281474976710656) = false := decide_eq_false c3
   clear c3
   exact z3_0
attribute [local go_sem] max2_int min2_int max_two min_two max_three min_three max_four min_four   -- for this text's walks alone
set_option linter.unusedVariables false
set_option linter.unusedSimpArgs false

/-! ### octets_part: function 72, by hand -/
def octets_part.f (a0 : ByteArray) (a1 : Int) (a2 : Int) : Option (ByteArray × Option Int) :=
 if 0 ≤ a1 then (if 0 ≤ a2 then (if a1 + a2 ≤ (a0.size : Int) then (if a0.size ≤ 1099511627776 then some (a0.extract a1.toNat (a1 + a2).toNat, none) else none) else none) else none) else none
set_option maxHeartbeats 4000000 in
theorem octets_part.calls (a0 : ByteArray) (a1 : Int) (a2 : Int) (r1 : ByteArray) (r2 : Option Int) (w : World) (h : octets_part.f a0 a1 a2 = some (r1, r2)) :
  Calls Tryd.prog 72 #[.string a0, .int .i64 a1, .int .i64 a2] w fun e w' => e = .returned (.tuple #[.string r1, errW r2]) ∧ Drawn0 w w' := by
 unfold octets_part.f at h
 by_cases h1 : 0 ≤ a1
 ·rw [if_pos h1] at h
  by_cases h2 : 0 ≤ a2
  ·rw [if_pos h2] at h
   by_cases h3 : a1 + a2 ≤ (a0.size : Int)
   ·rw [if_pos h3] at h
    by_cases h4 : a0.size ≤ 1099511627776
    ·rw [if_pos h4] at h
     obtain ⟨i, rfl⟩ := Int.eq_ofNat_of_zero_le h1
     obtain ⟨n, rfl⟩ := Int.eq_ofNat_of_zero_le h2
     obtain ⟨rfl, rfl⟩ : a0.extract i (i + n) = r1 ∧ none = r2 := by
      have h5 := Option.some.inj h
      rw [Int.toNat_natCast, show ((i : Int) + (n : Int)).toNat = i + n by omega] at h5
      exact Prod.mk.inj h5
     clear h
     have h5 : i + n ≤ a0.size := by omega
     clear h3
     have b3 : decide (a0.size < i) = false := decide_eq_false q1jy
     have b4 : decide ((a0.size : Int) - (i : Int) < (n : Int)) = false := decide_eq_false q1jy
     have b5 : ¬ a0.size < i := by omega
     have b6 : ¬ ((a0.size : Int) - (i : Int) < (n : Int)) := by omega
     have c1 := eq_true (show (0 : Int) ≤ (i : Int) by omega)
     have c2 := eq_true (show (i : Int) ≤ (i : Int) + (n : Int) by omega)
     have c3 := eq_true (show (i : Int) + (n : Int) ≤ (a0.size : Int) by omega)
     have c4 : ((i : Int) + (n : Int)).toNat = i + n := by omega
     go_enter Tryd.func72, Tryd.ntmps72
     go_wp2
     go_ret2
     exact ⟨rfl, ⟨0, rfl⟩⟩
    ·rw [if_neg h4] at h
     cases h
   ·rw [if_neg h3] at h
    cases h
  ·rw [if_neg h2] at h
   cases h
 ·rw [if_neg h1] at h
  cases h

/-! ### octets_number: function 73, by hand -/
def octets_number.f (a0 : Option Int) : Option (Int) := if a0 = none then some 0 else none
theorem octets_number.calls (a0 : Option Int) (r : Int) (w : World) (h : octets_number.f a0 = some r) :
  Calls Tryd.prog 73 #[errW a0] w fun e w' => e = .returned (.int .i64 r) ∧ Below w.heap.size w w' := by
 unfold octets_number.f at h
 by_cases h1 : a0 = none
 ·rw [if_pos h1] at h
  cases h
  subst h1
  rw [errW_none]
  go_enter Tryd.func73, Tryd.ntmps73
  go_wp2
  go_ret
  exact ⟨rfl, (Below.refl _ _).alloc (Nat.le_refl _) _⟩
 ·rw [if_neg h1] at h
  cases h

end Go.Proofs.YtbkgaplldfilnaaDoor.P
