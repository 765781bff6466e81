/- What bpdu's frames come to, and the fixed calls of bpdu's laws. -/
import Derived.Test.YtbfjlhjfpmgplaaDoorPx8
import Derived.Test.YtbfjlhjfpmgplaaDoorPx17
import Derived.Test.YtbfjlhjfpmgplaaDoorPx18
import Derived.Test.YtbfjlhjfpmgplaaDoorBpdu
import Derived.KernelRfl
namespace Go.Proofs.YtbfjlhjfpmgplaaDoor.P
set_option linter.unusedSimpArgs false
set_option linter.unusedVariables false
open Go Go.RowKit Go.Proofs.YtbfjlhjfpmgplaaDoorW.PrintWords Go.Proofs.YtbfjlhjfpmgplaaDoorW.PrintLast Go.Proofs.YtbfjlhjfpmgplaaDoorW.PrintMore Go.Proofs.YtbfjlhjfpmgplaaDoor.L

theorem band40 (m : Nat) (h : m < 18446744073709551616) : Go.bits .and .u64 (m : Int) 1099511627776 = ((m / 1099511627776 % 2 * 1099511627776 : Nat) : Int) := by
  have e0 : Go.bits .and .u64 (m : Int) 1099511627776 = IntKind.u64.wrap ((BitVec.ofInt 64 (m : Int) &&& BitVec.ofInt 64 1099511627776).toNat : Int) := rfl
  rw [e0, BitVec.toNat_and]
  have e1 : (BitVec.ofInt 64 (m : Int)).toNat = m := by
    rw [BitVec.ofInt_natCast, BitVec.toNat_ofNat]
    exact Nat.mod_eq_of_lt (by omega)
  have e2 : (BitVec.ofInt 64 (1099511627776 : Int)).toNat = 2 ^ 40 := by decide
  have e3 : (2 : Nat) ^ 40 = 1099511627776 := by decide
  have e4 : m &&& 2 ^ 40 = m / 1099511627776 % 2 * 1099511627776 := by
    apply Nat.eq_of_testBit_eq
    intro i
    rw [Nat.testBit_and, Nat.testBit_two_pow]
    by_cases hi : 40 = i
    · subst hi
      rw [decide_eq_true rfl, Bool.and_true, Nat.testBit_eq_decide_div_mod_eq, Nat.testBit_eq_decide_div_mod_eq, e3]
      rw [Nat.mul_div_cancel _ (by decide), Nat.mod_mod]
    · rw [decide_eq_false hi, Bool.and_false]
      have h2 : m / 1099511627776 % 2 = 0 ∨ m / 1099511627776 % 2 = 1 := by omega
      rcases h2 with h2 | h2
      · rw [h2, Nat.zero_mul, Nat.zero_testBit]
      · rw [h2, Nat.one_mul, ← e3, Nat.testBit_two_pow, decide_eq_false hi]
  rw [e1, e2, e4]
  exact u64w (by omega) (by omega)
/-- Is a MAC address many's? -/
def grpN (m : Nat) : Bool := decide (m / 1099511627776 % 2 = 1)
/-- May a host have it? -/
def ownN (m : Nat) : Bool := decide (0 < m) && decide (m < 281474976710656) && !grpN m
theorem group_eq {m : Nat} (h : m < 18446744073709551616) : addrs_Group.f (m : Int) = some (grpN m) := by
  unfold addrs_Group.f grpN
  rw [band40 m h]
  congr 1
  rw [Bool.eq_iff_iff, bne_iff_ne, decide_eq_true_eq]
  omega
theorem own_eq {m : Nat} (h : m < 18446744073709551616) : addrs_Own.f (m : Int) = some (ownN m) := by
  unfold addrs_Own.f ownN
  by_cases h0 : m = 0
  · subst h0
    rfl
  · rw [if_neg (by omega), decide_eq_true (show 0 < m by omega)]
    by_cases h1 : m < 281474976710656
    · rw [if_pos (by omega), group_eq h, decide_eq_true h1]
      rfl
    · rw [if_neg (by omega), decide_eq_false h1]
      rfl
/-- The frame that a message goes in. -/
def bframe (src : Nat) (m : Msg) : Int × Int × Bool × Int × Bool × Int × Int × ByteArray × Int :=
  if m.ok = true ∧ ownN src = true then (1652522221568, (src : Int), false, 0, false, 0, 0, bs m.bytes, 0) else (0, 0, false, 0, false, 0, 0, (⟨#[]⟩ : ByteArray), 91)
theorem frame_ev {src : Nat} {m : Msg} (h0 : src < 18446744073709551616) (h1 : m.root < 18446744073709551616) (h2 : m.bridge < 18446744073709551616) :
    Ev (fun k => bpdu_Frame.f k (src : Int) m.kind m.ch m.pr m.le m.fo m.ag m.ac m.role (m.root : Int) m.cost (m.bridge : Int) m.port m.age m.mage m.hello m.delay) (bframe src m) := by
  unfold bpdu_Frame.f
  refine Ev.bind (build_ev h1 h2) ?_
  unfold bbuild bframe
  by_cases hok : m.ok = true
  · rw [if_pos hok, own_eq h0]
    refine ev_pos rfl (ev_some ?_)
    by_cases ho : ownN src = true
    · rw [if_pos (show m.ok = true ∧ ownN src = true from ⟨hok, ho⟩)]
      exact ev_pos ho (ev_now rfl)
    · rw [if_neg (show ¬ (m.ok = true ∧ ownN src = true) from fun h => ho h.2)]
      exact ev_neg ho (ev_now rfl)
  · rw [if_neg hok, if_neg (show ¬ (m.ok = true ∧ ownN src = true) from fun h => hok h.1)]
    exact ev_neg (by decide) (ev_now rfl)
/-- The message in a frame. -/
def bof (dst : Int) (tag : Bool) (ty : Int) (s : ByteArray) : Msg × Bool :=
  if dst = 1652522221568 ∧ tag = false ∧ ty = 0 then ((bparse (nb s)).1, (bparse (nb s)).2 == 0) else (mzero, false)
theorem of_ev {s : ByteArray} (hs : s.size ≤ 1000000) (dst src : Int) (tag : Bool) (x : Int) (y : Bool) (z ty : Int) :
    Ev (fun k => bpdu_Of.f k dst src tag x y z ty s) (mtup (bof dst tag ty s).1 (bof dst tag ty s).2) := by
  unfold bpdu_Of.f bof
  by_cases h1 : dst = 1652522221568
  · refine ev_pos h1 ?_
    cases tag
    · refine ev_neg (by decide) ?_
      by_cases h2 : ty = 0
      · rw [if_pos ⟨h1, rfl, h2⟩]
        exact ev_pos h2 (Ev.bind (parse_ev hs) (ev_now rfl))
      · rw [if_neg (fun h => h2 h.2.2)]
        exact ev_neg h2 (ev_now rfl)
    · rw [if_neg (fun h => by cases h.2.1)]
      exact ev_pos rfl (ev_now rfl)
  · rw [if_neg (fun h => h1 h.1)]
    exact ev_neg h1 (ev_now rfl)
def mrapid : Msg := ⟨2, false, true, false, false, false, false, 3, 9223372036854775810, 5, 9223372036854775814, 32769, 0, 5120, 512, 3840⟩
theorem bpdu_fixed_ev : Ev (fun k => gangwaylaw09_fixed.f k) true := by
  unfold gangwaylaw09_fixed.f gangwaylaw09_rapid.f
  refine ev_some ?_
  dsimp only
  have b1 : Ev (fun k => bpdu_Build.f k 2 false true false false false false 3 9223372036854775810 5 9223372036854775814 32769 0 5120 512 3840) ((⟨#[66, 66, 3, 0, 0, 2, 2, 14, 128, 0, 0, 0, 0, 0, 0, 2, 0, 0, 0, 5, 128, 0, 0, 0, 0, 0, 0, 6, 128, 1, 0, 0, 20, 0, 2, 0, 15, 0, 0]⟩ : ByteArray), 0) := by
    have h := build_ev (m := mrapid) (by decide) (by decide)
    rw [show bbuild mrapid = ((⟨#[66, 66, 3, 0, 0, 2, 2, 14, 128, 0, 0, 0, 0, 0, 0, 2, 0, 0, 0, 5, 128, 0, 0, 0, 0, 0, 0, 6, 128, 1, 0, 0, 20, 0, 2, 0, 15, 0, 0]⟩ : ByteArray), 0) by decide +kernel] at h
    exact h
  have b2 : Ev (fun k => bpdu_Build.f k 128 false false false false false false 0 0 0 0 0 0 0 0 0) ((⟨#[66, 66, 3, 0, 0, 0, 128]⟩ : ByteArray), 0) := by
    have h := build_ev (m := mchange) (by decide) (by decide)
    rw [show bbuild mchange = ((⟨#[66, 66, 3, 0, 0, 0, 128]⟩ : ByteArray), 0) by decide +kernel] at h
    exact h
  have b3 : Ev (fun k => bpdu_Build.f k 0 false true false false false false 0 0 0 0 0 0 0 0 0) ((⟨#[]⟩ : ByteArray), 91) := by
    have h := build_ev (m := ⟨0, false, true, false, false, false, false, 0, 0, 0, 0, 0, 0, 0, 0, 0⟩) (by decide) (by decide)
    rw [show bbuild ⟨0, false, true, false, false, false, false, 0, 0, 0, 0, 0, 0, 0, 0, 0⟩ = ((⟨#[]⟩ : ByteArray), 91) by decide +kernel] at h
    exact h
  have p1 := parse_ev (s := (⟨#[66, 66, 3, 0, 0, 2, 2, 14, 128, 0, 0, 0, 0, 0, 0, 2, 0, 0, 0, 5, 128, 0, 0, 0, 0, 0, 0, 6, 128, 1, 0, 0, 20, 0, 2, 0, 15, 0, 0]⟩ : ByteArray) ++ (⟨#[109, 111, 114, 101]⟩ : ByteArray)) (by decide)
  rw [nb_append] at p1
  rw [show bparse (nb (⟨#[66, 66, 3, 0, 0, 2, 2, 14, 128, 0, 0, 0, 0, 0, 0, 2, 0, 0, 0, 5, 128, 0, 0, 0, 0, 0, 0, 6, 128, 1, 0, 0, 20, 0, 2, 0, 15, 0, 0]⟩ : ByteArray) ++ nb (⟨#[109, 111, 114, 101]⟩ : ByteArray)) = (mrapid, 0) by decide +kernel] at p1
  have p2 := parse_ev (s := (⟨#[66, 66, 3, 0, 0, 2, 2, 14, 128, 0, 0, 0, 0, 0, 0, 2, 0, 0, 0, 5, 128, 0, 0, 0, 0, 0, 0, 6, 128, 1, 0, 0, 20, 0, 2, 0, 15, 0, 0]⟩ : ByteArray).extract 0 38) (by decide)
  rw [nb_extract] at p2
  rw [show bparse (((nb (⟨#[66, 66, 3, 0, 0, 2, 2, 14, 128, 0, 0, 0, 0, 0, 0, 2, 0, 0, 0, 5, 128, 0, 0, 0, 0, 0, 0, 6, 128, 1, 0, 0, 20, 0, 2, 0, 15, 0, 0]⟩ : ByteArray)).take 38).drop 0) = (mzero, 90) by decide +kernel] at p2
  have p3 := parse_ev (s := (⟨#[66, 66, 3, 0, 1, 0, 128]⟩ : ByteArray)) (by decide)
  rw [show bparse (nb (⟨#[66, 66, 3, 0, 1, 0, 128]⟩ : ByteArray)) = (mzero, 91) by decide +kernel] at p3
  have f1 : Ev (fun k => bpdu_Frame.f k 2 2 false true false false false false 3 9223372036854775810 5 9223372036854775814 32769 0 5120 512 3840) (1652522221568, 2, false, 0, false, 0, 0, (⟨#[66, 66, 3, 0, 0, 2, 2, 14, 128, 0, 0, 0, 0, 0, 0, 2, 0, 0, 0, 5, 128, 0, 0, 0, 0, 0, 0, 6, 128, 1, 0, 0, 20, 0, 2, 0, 15, 0, 0]⟩ : ByteArray), 0) := by
    have h := frame_ev (src := 2) (m := mrapid) (by decide) (by decide) (by decide)
    rw [show bframe 2 mrapid = (1652522221568, 2, false, 0, false, 0, 0, (⟨#[66, 66, 3, 0, 0, 2, 2, 14, 128, 0, 0, 0, 0, 0, 0, 2, 0, 0, 0, 5, 128, 0, 0, 0, 0, 0, 0, 6, 128, 1, 0, 0, 20, 0, 2, 0, 15, 0, 0]⟩ : ByteArray), 0) by kernel_rfl] at h
    exact h
  have o1 := of_ev (s := (⟨#[66, 66, 3, 0, 0, 2, 2, 14, 128, 0, 0, 0, 0, 0, 0, 2, 0, 0, 0, 5, 128, 0, 0, 0, 0, 0, 0, 6, 128, 1, 0, 0, 20, 0, 2, 0, 15, 0, 0]⟩ : ByteArray)) (by decide) 1652522221568 2 false 0 false 0 0
  rw [show bof 1652522221568 false 0 (⟨#[66, 66, 3, 0, 0, 2, 2, 14, 128, 0, 0, 0, 0, 0, 0, 2, 0, 0, 0, 5, 128, 0, 0, 0, 0, 0, 0, 6, 128, 1, 0, 0, 20, 0, 2, 0, 15, 0, 0]⟩ : ByteArray) = (mrapid, true) by decide +kernel] at o1
  refine Ev.bind b1 (Ev.bind b2 (ev_pos (by decide) (Ev.bind p1 (ev_pos (by decide) (ev_pos (by decide) (Ev.bind p2 (Ev.bind p3 (Ev.bind b3 (ev_some (Ev.bind f1 (Ev.bind o1 ?_)))))))))))
  refine ev_pos (by decide) (ev_pos rfl (ev_pos (by decide +kernel) (ev_pos rfl (ev_some (ev_pos (by decide +kernel) (ev_pos rfl (ev_pos rfl (ev_pos rfl (ev_pos rfl (ev_pos rfl (ev_pos rfl (ev_some (ev_pos (by decide +kernel) (ev_now rfl))))))))))))))
end Go.Proofs.YtbfjlhjfpmgplaaDoor.P
