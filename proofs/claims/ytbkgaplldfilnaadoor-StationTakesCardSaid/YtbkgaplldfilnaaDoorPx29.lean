-- slim
-- Written by wip/hprint.py (this session's program) through the kit's print program; hand contracts are marked 'by hand'.
import Derived.Test.YtbkgaplldfilnaaDoorAbb
import Derived.Test.YtbkgaplldfilnaaDoorRow
import Derived.Test.YtbkgaplldfilnaaDoorPx0
import Derived.Test.YtbkgaplldfilnaaDoorPx13
import Derived.Test.YtbkgaplldfilnaaDoorPx24
import Derived.Test.YtbkgaplldfilnaaDoorPx26
import Derived.Test.YtbkgaplldfilnaaDoorPx25
namespace Go.Proofs.YtbkgaplldfilnaaDoor.P
open Go.RowKit Go.Proofs.YtbkgaplldfilnaaDoorW.PrintWords Go.Proofs.YtbkgaplldfilnaaDoorW.PrintLast Go.Proofs.YtbkgaplldfilnaaDoorW.PrintMore
attribute [local go_sem] max2_int min2_int max_two min_two max_three min_three max_four min_four   -- for this text's walks alone
set_option linter.unusedVariables false
set_option linter.unusedSimpArgs false

theorem qubq {p : Prop} (h : p := by (with_reducible repeat (first | refine blk_drewN ?_ _ | refine blk_drew ?_ | refine blk_alloc ?_ _)); exact BK311.out) : p := h
theorem qufl {p : Prop} (h : p := by (with_reducible repeat (first | refine blk_drewN ?_ _ | refine blk_drew ?_ | refine blk_alloc ?_ _)); exact BK310.out) : p := h
theorem qkhg {p : Prop} (h : p := by (with_reducible repeat (first | refine blk_drewN ?_ _ | refine blk_drew ?_ | refine blk_alloc ?_ _)); exact BK312.out) : p := h
theorem q5f1 {p : Prop} (h : p := by (with_reducible repeat (first | refine blk_drewN ?_ _ | refine blk_drew ?_ | refine blk_alloc ?_ _)); exact BK365.out) : p := h
theorem q70w {p : Prop} (h : p := by (with_reducible repeat (first | refine blk_drewN ?_ _ | refine blk_drew ?_ | refine blk_alloc ?_ _)); exact BK404.out) : p := h
theorem qu4m {p : Prop} (h : p := by (with_reducible repeat (first | refine blk_drewN ?_ _ | refine blk_drew ?_ | refine blk_alloc ?_ _)); exact BK342.out) : p := h
theorem qcc7 {p : Prop} (h : p := by (with_reducible repeat (first | refine blk_drewN ?_ _ | refine blk_drew ?_ | refine blk_alloc ?_ _ | refine blk_far ?_ NB312_311.out _)); exact BK312.out) : p := h
theorem q4h6 {p : Prop} (h : p := by (with_reducible repeat (first | refine blk_drewN ?_ _ | refine blk_drew ?_ | refine blk_alloc ?_ _ | refine blk_far ?_ NB310_342.out _)); exact BK310.out) : p := h
theorem qd3c {p : Prop} (h : p := by (with_reducible repeat (first | refine blk_drewN ?_ _ | refine blk_drew ?_ | refine blk_alloc ?_ _ | refine blk_far ?_ NB310_365.out _)); exact BK310.out) : p := h
theorem qxsq {p : Prop} (h : p := by (with_reducible repeat (first | refine blk_drewN ?_ _ | refine blk_drew ?_ | refine blk_alloc ?_ _ | refine blk_far ?_ NB310_404.out _)); exact BK310.out) : p := h
theorem q9p0 {p : Prop} (h : p := by (with_reducible repeat (first | refine blk_drewN ?_ _ | refine blk_drew ?_ | refine blk_alloc ?_ _ | refine blk_far ?_ NB311_342.out _)); exact BK311.out) : p := h
theorem qbc4 {p : Prop} (h : p := by (with_reducible repeat (first | refine blk_drewN ?_ _ | refine blk_drew ?_ | refine blk_alloc ?_ _ | refine blk_far ?_ NB311_365.out _)); exact BK311.out) : p := h
theorem qim3 {p : Prop} (h : p := by (with_reducible repeat (first | refine blk_drewN ?_ _ | refine blk_drew ?_ | refine blk_alloc ?_ _ | refine blk_far ?_ NB311_404.out _)); exact BK311.out) : p := h
theorem q4gu {p : Prop} (h : p := by (with_reducible repeat (first | refine blk_drewN ?_ _ | refine blk_drew ?_ | refine blk_alloc ?_ _ | refine blk_far ?_ NB312_342.out _)); exact BK312.out) : p := h
theorem qwe1 {p : Prop} (h : p := by (with_reducible repeat (first | refine blk_drewN ?_ _ | refine blk_drew ?_ | refine blk_alloc ?_ _ | refine blk_far ?_ NB312_365.out _)); exact BK312.out) : p := h
theorem q0b6 {p : Prop} (h : p := by (with_reducible repeat (first | refine blk_drewN ?_ _ | refine blk_drew ?_ | refine blk_alloc ?_ _ | refine blk_far ?_ NB312_404.out _)); exact BK312.out) : p := h
theorem q0dt {p : Prop} (h : p := by (with_reducible repeat (first | refine blk_drewN ?_ _ | refine blk_drew ?_ | refine blk_alloc ?_ _ | refine blk_far ?_ NB365_404.out _)); exact BK365.out) : p := h
theorem q19n {p : Prop} (h : p := by repeat (first | (with_reducible first | exact HB.out | apply below_alloc | apply pw_below_drewN | apply below_drew1 | refine below_set ?_ GE310.out) | exact HB.out)) : p := h
theorem qero {p : Prop} (h : p := by repeat (first | (with_reducible first | exact HB.out | apply below_alloc | apply pw_below_drewN | apply below_drew1 | refine below_set ?_ GE310.out | refine below_set ?_ GE311.out) | exact HB.out)) : p := h
theorem q48w {p : Prop} (h : p := by repeat (first | (with_reducible first | exact HB.out | apply below_alloc | apply pw_below_drewN | apply below_drew1 | refine below_set ?_ GE310.out | refine below_set ?_ GE311.out | refine below_set ?_ GE312.out) | exact HB.out)) : p := h
theorem qoki {p : Prop} (h : p := by repeat (first | (with_reducible first | exact HB.out | apply below_alloc | apply pw_below_drewN | apply below_drew1 | refine below_set ?_ GE310.out | refine below_set ?_ GE311.out | refine below_set ?_ GE312.out | refine below_set ?_ GE365.out) | exact HB.out)) : p := h
theorem qbek {p : Prop} (h : p := by repeat (first | (with_reducible first | exact HB.out | apply below_alloc | apply pw_below_drewN | apply below_drew1 | refine below_set ?_ GE310.out | refine below_set ?_ GE311.out | refine below_set ?_ GE312.out | refine below_set ?_ GE342.out) | exact HB.out)) : p := h
theorem qlch {p : Prop} (h : p := by with_reducible repeat (first | (apply blk_far; case hp => assumption) | apply blk_set | refine blk_drewN ?_ _ | refine blk_drew ?_ | refine blk_alloc ?_ _ | exact BK310.out | exact BK311.out | exact BK312.out | exact BK342.out | exact BK365.out | exact BK404.out)) : p := h
theorem q0dv {p : Prop} (h : p := by repeat (first | (with_reducible first | exact HB.out | apply below_alloc | apply pw_below_drewN | apply below_drew1 | refine below_set ?_ GE310.out | refine below_set ?_ GE311.out | refine below_set ?_ GE312.out | refine below_set ?_ GE365.out | refine below_set ?_ GE404.out) | exact HB.out)) : p := h
theorem q649 {p : Prop} (h : p := by rw [hg]; exact Nat.ne_of_gt (blk_lt (g := gb310) qufl)) : p := h
theorem q0xp {p : Prop} (h : p := by rw [hg]; exact Nat.ne_of_lt (blk_lt (g := gb310) qufl)) : p := h
theorem q2cb {p : Prop} (h : p := by rw [hg]; exact Nat.ne_of_gt (blk_lt (g := gb311) qubq)) : p := h
theorem q0x3 {p : Prop} (h : p := by rw [hg]; exact Nat.ne_of_lt (blk_lt (g := gb311) qubq)) : p := h
theorem qwky {p : Prop} (h : p := by rw [hg]; exact Nat.ne_of_gt (blk_lt (g := gb312) qkhg)) : p := h
theorem qxy7 {p : Prop} (h : p := by rw [hg]; exact Nat.ne_of_lt (blk_lt (g := gb312) qkhg)) : p := h
theorem q95j {p : Prop} (h : p := by (with_reducible repeat (first | refine blk_drewN ?_ _ | refine blk_drew ?_ | refine blk_alloc ?_ _)); exact put5_0_5 qcc7) : p := h
theorem qx2f {p : Prop} (h : p := by (with_reducible repeat (first | refine blk_drewN ?_ _ | refine blk_drew ?_ | refine blk_alloc ?_ _)); exact put4_0_4 q70w) : p := h
theorem q6od {p : Prop} (h : p := by (with_reducible repeat (first | refine blk_drewN ?_ _ | refine blk_drew ?_ | refine blk_alloc ?_ _)); exact put10_0_10 q5f1) : p := h
theorem qvqw {p : Prop} (h : p := by (with_reducible repeat (first | refine blk_drewN ?_ _ | refine blk_drew ?_ | refine blk_alloc ?_ _ | refine blk_far ?_ NB311_312.out _)); exact put6_0_6 qubq) : p := h
/-! ### gangwayref20_Take: function 9 -/
mutual
def gangwayref20_Take.j0 : Nat → Int → Bool → Int → Int → Bool → Int → Bool → Int → Int → ByteArray → Option (Int × Int × Int × Int × Bool × ByteArray × Int × Int × Int × Int × Int)
 | 0, _, _, _, _, _, _, _, _, _, _ => none
 | k + 1, x1, x22, x311000, x311001, x311002, x311003, x311004, x311005, x311006, x311007 => if x22 = true then ((gangwayref20_why.f 2).bind fun bt313 => (some (bt313.1, bt313.2.1, bt313.2.2.1, bt313.2.2.2.1, bt313.2.2.2.2.1, bt313.2.2.2.2.2.1, bt313.2.2.2.2.2.2.1, bt313.2.2.2.2.2.2.2.1, bt313.2.2.2.2.2.2.2.2.1, bt313.2.2.2.2.2.2.2.2.2.1, bt313.2.2.2.2.2.2.2.2.2.2))) else (if x311002 = true then (gangwayref20_Take.j1 k x1 true x311000 x311001 x311002 x311003 x311004 x311005 x311006 x311007) else ((gangwayref02_Own.f x311001).bind fun t324 => (if t324 = true then (if x311006 = 2048 then (gangwayref20_Take.j1 k x1 false x311000 x311001 x311002 x311003 x311004 x311005 x311006 x311007) else (gangwayref20_Take.j1 k x1 (x311006 != 2054) x311000 x311001 x311002 x311003 x311004 x311005 x311006 x311007)) else (gangwayref20_Take.j1 k x1 true x311000 x311001 x311002 x311003 x311004 x311005 x311006 x311007))))
def gangwayref20_Take.j1 : Nat → Int → Bool → Int → Int → Bool → Int → Bool → Int → Int → ByteArray → Option (Int × Int × Int × Int × Bool × ByteArray × Int × Int × Int × Int × Int)
 | 0, _, _, _, _, _, _, _, _, _, _ => none
 | k + 1, x1, x44, x311000, x311001, x311002, x311003, x311004, x311005, x311006, x311007 => if x44 = true then ((gangwayref20_why.f 3).bind fun bt325 => (some (bt325.1, bt325.2.1, bt325.2.2.1, bt325.2.2.2.1, bt325.2.2.2.2.1, bt325.2.2.2.2.2.1, bt325.2.2.2.2.2.2.1, bt325.2.2.2.2.2.2.2.1, bt325.2.2.2.2.2.2.2.2.1, bt325.2.2.2.2.2.2.2.2.2.1, bt325.2.2.2.2.2.2.2.2.2.2))) else (if x311006 = 2054 then ((gangwayref05_Of.f k x311000 x311001 x311002 x311003 x311004 x311005 x311006 x311007).bind fun bt336 => (if bt336.2.2.2.2.2 = true then (some (1, 0, 0, 0, false, (⟨#[]⟩ : ByteArray), bt336.1, bt336.2.1, bt336.2.2.1, bt336.2.2.2.1, bt336.2.2.2.2.1)) else ((gangwayref20_why.f 3).bind fun bt343 => (some (bt343.1, bt343.2.1, bt343.2.2.1, bt343.2.2.2.1, bt343.2.2.2.2.1, bt343.2.2.2.2.2.1, bt343.2.2.2.2.2.2.1, bt343.2.2.2.2.2.2.2.1, bt343.2.2.2.2.2.2.2.2.1, bt343.2.2.2.2.2.2.2.2.2.1, bt343.2.2.2.2.2.2.2.2.2.2))))) else ((gangwayref06_Parse.f k x311007).bind fun bt354 => (if bt354.2.2.2.2.2.2.2.2.2.2 = 0 then (gangwayref20_Take.j2 k x1 (bt354.2.2.2.2.2.1 == 0) bt354.1 bt354.2.1 bt354.2.2.1 bt354.2.2.2.1 bt354.2.2.2.2.1 bt354.2.2.2.2.2.1 bt354.2.2.2.2.2.2.1 bt354.2.2.2.2.2.2.2.1 bt354.2.2.2.2.2.2.2.2.1 bt354.2.2.2.2.2.2.2.2.2.1) else (gangwayref20_Take.j2 k x1 true bt354.1 bt354.2.1 bt354.2.2.1 bt354.2.2.2.1 bt354.2.2.2.2.1 bt354.2.2.2.2.2.1 bt354.2.2.2.2.2.2.1 bt354.2.2.2.2.2.2.2.1 bt354.2.2.2.2.2.2.2.2.1 bt354.2.2.2.2.2.2.2.2.2.1))))
def gangwayref20_Take.j2 : Nat → Int → Bool → Int → Int → Bool → Bool → Int → Int → Int → Int → Int → ByteArray → Option (Int × Int × Int × Int × Bool × ByteArray × Int × Int × Int × Int × Int)
 | 0, _, _, _, _, _, _, _, _, _, _, _, _ => none
 | k + 1, x1, x75, x366000, x366001, x366002, x366003, x366004, x366005, x366006, x366007, x366008, x366009 => if x75 = true then ((gangwayref20_why.f 4).bind fun bt366 => (some (bt366.1, bt366.2.1, bt366.2.2.1, bt366.2.2.2.1, bt366.2.2.2.2.1, bt366.2.2.2.2.2.1, bt366.2.2.2.2.2.2.1, bt366.2.2.2.2.2.2.2.1, bt366.2.2.2.2.2.2.2.2.1, bt366.2.2.2.2.2.2.2.2.2.1, bt366.2.2.2.2.2.2.2.2.2.2))) else (if x366008 = x1 then (if x366003 = true then (gangwayref20_Take.j3 k true x366000 x366001 x366002 x366003 x366004 x366005 x366006 x366007 x366008 x366009) else (gangwayref20_Take.j3 k (decide (x366004 > 0)) x366000 x366001 x366002 x366003 x366004 x366005 x366006 x366007 x366008 x366009)) else ((gangwayref20_why.f 2).bind fun bt377 => (some (bt377.1, bt377.2.1, bt377.2.2.1, bt377.2.2.2.1, bt377.2.2.2.2.1, bt377.2.2.2.2.2.1, bt377.2.2.2.2.2.2.1, bt377.2.2.2.2.2.2.2.1, bt377.2.2.2.2.2.2.2.2.1, bt377.2.2.2.2.2.2.2.2.2.1, bt377.2.2.2.2.2.2.2.2.2.2))))
def gangwayref20_Take.j3 : Nat → Bool → Int → Int → Bool → Bool → Int → Int → Int → Int → Int → ByteArray → Option (Int × Int × Int × Int × Bool × ByteArray × Int × Int × Int × Int × Int)
 | 0, _, _, _, _, _, _, _, _, _, _, _ => none
 | k + 1, x92, x366000, x366001, x366002, x366003, x366004, x366005, x366006, x366007, x366008, x366009 => if x92 = true then ((gangwayref20_why.f 5).bind fun bt388 => (some (bt388.1, bt388.2.1, bt388.2.2.1, bt388.2.2.2.1, bt388.2.2.2.2.1, bt388.2.2.2.2.2.1, bt388.2.2.2.2.2.2.1, bt388.2.2.2.2.2.2.2.1, bt388.2.2.2.2.2.2.2.2.1, bt388.2.2.2.2.2.2.2.2.2.1, bt388.2.2.2.2.2.2.2.2.2.2))) else ((gangwayref07_Parse.f k x366007 x366008 x366009).bind fun bt399 => (if x366006 = 17 then (gangwayref20_Take.j4 k (bt399.2.2.2.2 != 0) x366000 x366001 x366002 x366003 x366004 x366005 x366006 x366007 x366008 x366009 bt399.1 bt399.2.1 bt399.2.2.1 bt399.2.2.2.1) else (gangwayref20_Take.j4 k true x366000 x366001 x366002 x366003 x366004 x366005 x366006 x366007 x366008 x366009 bt399.1 bt399.2.1 bt399.2.2.1 bt399.2.2.2.1)))
def gangwayref20_Take.j4 : Nat → Bool → Int → Int → Bool → Bool → Int → Int → Int → Int → Int → ByteArray → Int → Int → Bool → ByteArray → Option (Int × Int × Int × Int × Bool × ByteArray × Int × Int × Int × Int × Int)
 | 0, _, _, _, _, _, _, _, _, _, _, _, _, _, _, _ => none
 | k + 1, x112, x366000, x366001, x366002, x366003, x366004, x366005, x366006, x366007, x366008, x366009, x405000, x405001, x405002, x405003 => if x112 = true then ((gangwayref20_why.f 6).bind fun bt405 => (some (bt405.1, bt405.2.1, bt405.2.2.1, bt405.2.2.2.1, bt405.2.2.2.2.1, bt405.2.2.2.2.2.1, bt405.2.2.2.2.2.2.1, bt405.2.2.2.2.2.2.2.1, bt405.2.2.2.2.2.2.2.2.1, bt405.2.2.2.2.2.2.2.2.2.1, bt405.2.2.2.2.2.2.2.2.2.2))) else (if x405001 = 4789 then (some (0, x366007, x405000, x405001, x405002, x405003, 0, 0, 0, 0, 0)) else ((gangwayref20_why.f 7).bind fun bt416 => (some (bt416.1, bt416.2.1, bt416.2.2.1, bt416.2.2.2.1, bt416.2.2.2.2.1, bt416.2.2.2.2.2.1, bt416.2.2.2.2.2.2.1, bt416.2.2.2.2.2.2.2.1, bt416.2.2.2.2.2.2.2.2.1, bt416.2.2.2.2.2.2.2.2.2.1, bt416.2.2.2.2.2.2.2.2.2.2))))
end
def gangwayref20_Take.f (k : Nat) (a0 : Int) (a1 : Int) (a2_0 : Int) (a2_1 : Int) (a2_2 : Bool) (a2_3 : Int) (a2_4 : Bool) (a2_5 : Int) (a2_6 : Int) (a2_7 : ByteArray) : Option (Int × Int × Int × Int × Bool × ByteArray × Int × Int × Int × Int × Int) := if a2_0 = a0 then (gangwayref20_Take.j0 k a1 false a2_0 a2_1 a2_2 a2_3 a2_4 a2_5 a2_6 a2_7) else (gangwayref20_Take.j0 k a1 (a2_0 != 281474976710655) a2_0 a2_1 a2_2 a2_3 a2_4 a2_5 a2_6 a2_7)
theorem gangwayref20_Take.mono_l : ∀ k, (∀ y0 y1 y2 y3 y4 y5 y6 y7 y8 y9, LeO (gangwayref20_Take.j0 k y0 y1 y2 y3 y4 y5 y6 y7 y8 y9) (gangwayref20_Take.j0 (k + 1) y0 y1 y2 y3 y4 y5 y6 y7 y8 y9)) ∧ (∀ y0 y1 y2 y3 y4 y5 y6 y7 y8 y9, LeO (gangwayref20_Take.j1 k y0 y1 y2 y3 y4 y5 y6 y7 y8 y9) (gangwayref20_Take.j1 (k + 1) y0 y1 y2 y3 y4 y5 y6 y7 y8 y9)) ∧ (∀ y0 y1 y2 y3 y4 y5 y6 y7 y8 y9 y10 y11, LeO (gangwayref20_Take.j2 k y0 y1 y2 y3 y4 y5 y6 y7 y8 y9 y10 y11) (gangwayref20_Take.j2 (k + 1) y0 y1 y2 y3 y4 y5 y6 y7 y8 y9 y10 y11)) ∧ (∀ y0 y1 y2 y3 y4 y5 y6 y7 y8 y9 y10, LeO (gangwayref20_Take.j3 k y0 y1 y2 y3 y4 y5 y6 y7 y8 y9 y10) (gangwayref20_Take.j3 (k + 1) y0 y1 y2 y3 y4 y5 y6 y7 y8 y9 y10)) ∧ (∀ y0 y1 y2 y3 y4 y5 y6 y7 y8 y9 y10 y11 y12 y13 y14, LeO (gangwayref20_Take.j4 k y0 y1 y2 y3 y4 y5 y6 y7 y8 y9 y10 y11 y12 y13 y14) (gangwayref20_Take.j4 (k + 1) y0 y1 y2 y3 y4 y5 y6 y7 y8 y9 y10 y11 y12 y13 y14))
 | 0 => ⟨fun _ _ _ _ _ _ _ _ _ _ r h => by simp [gangwayref20_Take.j0] at h, fun _ _ _ _ _ _ _ _ _ _ r h => by simp [gangwayref20_Take.j1] at h, fun _ _ _ _ _ _ _ _ _ _ _ _ r h => by simp [gangwayref20_Take.j2] at h, fun _ _ _ _ _ _ _ _ _ _ _ r h => by simp [gangwayref20_Take.j3] at h, fun _ _ _ _ _ _ _ _ _ _ _ _ _ _ _ r h => by simp [gangwayref20_Take.j4] at h⟩
 | k + 1 => by
  obtain ⟨ih0, ih1, ih2, ih3, ih4⟩ := gangwayref20_Take.mono_l k
  refine ⟨?_, ?_, ?_, ?_, ?_⟩
  ·intro y0 y1 y2 y3 y4 y5 y6 y7 y8 y9
   unfold gangwayref20_Take.j0
   repeat' first
   | (with_reducible exact ih0 _ _ _ _ _ _ _ _ _ _)
   | (with_reducible exact ih1 _ _ _ _ _ _ _ _ _ _)
   | (with_reducible exact ih2 _ _ _ _ _ _ _ _ _ _ _ _)
   | (with_reducible exact ih3 _ _ _ _ _ _ _ _ _ _ _)
   | (with_reducible exact ih4 _ _ _ _ _ _ _ _ _ _ _ _ _ _ _)
   | (with_reducible exact gangwayref05_Of.mono _ _ _ _ _ _ _ _ _)
   | (with_reducible exact gangwayref06_Parse.mono _ _)
   | (with_reducible exact gangwayref07_Parse.mono _ _ _ _)
   | (with_reducible exact LeO.refl _)
   | (with_reducible exact LeO.none _)
   | (with_reducible refine LeO.ite ?_ ?_)
   | (with_reducible refine LeO.bind ?_ (fun _ => ?_))
   | exact ih0 _ _ _ _ _ _ _ _ _ _
   | exact ih1 _ _ _ _ _ _ _ _ _ _
   | exact ih2 _ _ _ _ _ _ _ _ _ _ _ _
   | exact ih3 _ _ _ _ _ _ _ _ _ _ _
   | exact ih4 _ _ _ _ _ _ _ _ _ _ _ _ _ _ _
   | exact gangwayref05_Of.mono _ _ _ _ _ _ _ _ _
   | exact gangwayref06_Parse.mono _ _
   | exact gangwayref07_Parse.mono _ _ _ _
   | exact LeO.none _
   | refine LeO.ite ?_ ?_
   | refine LeO.bind ?_ (fun _ => ?_)
  ·intro y0 y1 y2 y3 y4 y5 y6 y7 y8 y9
   unfold gangwayref20_Take.j1
   repeat' first
   | (with_reducible exact ih0 _ _ _ _ _ _ _ _ _ _)
   | (with_reducible exact ih1 _ _ _ _ _ _ _ _ _ _)
   | (with_reducible exact ih2 _ _ _ _ _ _ _ _ _ _ _ _)
   | (with_reducible exact ih3 _ _ _ _ _ _ _ _ _ _ _)
   | (with_reducible exact ih4 _ _ _ _ _ _ _ _ _ _ _ _ _ _ _)
   | (with_reducible exact gangwayref05_Of.mono _ _ _ _ _ _ _ _ _)
   | (with_reducible exact gangwayref06_Parse.mono _ _)
   | (with_reducible exact gangwayref07_Parse.mono _ _ _ _)
   | (with_reducible exact LeO.refl _)
   | (with_reducible exact LeO.none _)
   | (with_reducible refine LeO.ite ?_ ?_)
   | (with_reducible refine LeO.bind ?_ (fun _ => ?_))
   | exact ih0 _ _ _ _ _ _ _ _ _ _
   | exact ih1 _ _ _ _ _ _ _ _ _ _
   | exact ih2 _ _ _ _ _ _ _ _ _ _ _ _
   | exact ih3 _ _ _ _ _ _ _ _ _ _ _
   | exact ih4 _ _ _ _ _ _ _ _ _ _ _ _ _ _ _
   | exact gangwayref05_Of.mono _ _ _ _ _ _ _ _ _
   | exact gangwayref06_Parse.mono _ _
   | exact gangwayref07_Parse.mono _ _ _ _
   | exact LeO.none _
   | refine LeO.ite ?_ ?_
   | refine LeO.bind ?_ (fun _ => ?_)
  ·intro y0 y1 y2 y3 y4 y5 y6 y7 y8 y9 y10 y11
   unfold gangwayref20_Take.j2
   repeat' first
   | (with_reducible exact ih0 _ _ _ _ _ _ _ _ _ _)
   | (with_reducible exact ih1 _ _ _ _ _ _ _ _ _ _)
   | (with_reducible exact ih2 _ _ _ _ _ _ _ _ _ _ _ _)
   | (with_reducible exact ih3 _ _ _ _ _ _ _ _ _ _ _)
   | (with_reducible exact ih4 _ _ _ _ _ _ _ _ _ _ _ _ _ _ _)
   | (with_reducible exact gangwayref05_Of.mono _ _ _ _ _ _ _ _ _)
   | (with_reducible exact gangwayref06_Parse.mono _ _)
   | (with_reducible exact gangwayref07_Parse.mono _ _ _ _)
   | (with_reducible exact LeO.refl _)
   | (with_reducible exact LeO.none _)
   | (with_reducible refine LeO.ite ?_ ?_)
   | (with_reducible refine LeO.bind ?_ (fun _ => ?_))
   | exact ih0 _ _ _ _ _ _ _ _ _ _
   | exact ih1 _ _ _ _ _ _ _ _ _ _
   | exact ih2 _ _ _ _ _ _ _ _ _ _ _ _
   | exact ih3 _ _ _ _ _ _ _ _ _ _ _
   | exact ih4 _ _ _ _ _ _ _ _ _ _ _ _ _ _ _
   | exact gangwayref05_Of.mono _ _ _ _ _ _ _ _ _
   | exact gangwayref06_Parse.mono _ _
   | exact gangwayref07_Parse.mono _ _ _ _
   | exact LeO.none _
   | refine LeO.ite ?_ ?_
   | refine LeO.bind ?_ (fun _ => ?_)
  ·intro y0 y1 y2 y3 y4 y5 y6 y7 y8 y9 y10
   unfold gangwayref20_Take.j3
   repeat' first
   | (with_reducible exact ih0 _ _ _ _ _ _ _ _ _ _)
   | (with_reducible exact ih1 _ _ _ _ _ _ _ _ _ _)
   | (with_reducible exact ih2 _ _ _ _ _ _ _ _ _ _ _ _)
   | (with_reducible exact ih3 _ _ _ _ _ _ _ _ _ _ _)
   | (with_reducible exact ih4 _ _ _ _ _ _ _ _ _ _ _ _ _ _ _)
   | (with_reducible exact gangwayref05_Of.mono _ _ _ _ _ _ _ _ _)
   | (with_reducible exact gangwayref06_Parse.mono _ _)
   | (with_reducible exact gangwayref07_Parse.mono _ _ _ _)
   | (with_reducible exact LeO.refl _)
   | (with_reducible exact LeO.none _)
   | (with_reducible refine LeO.ite ?_ ?_)
   | (with_reducible refine LeO.bind ?_ (fun _ => ?_))
   | exact ih0 _ _ _ _ _ _ _ _ _ _
   | exact ih1 _ _ _ _ _ _ _ _ _ _
   | exact ih2 _ _ _ _ _ _ _ _ _ _ _ _
   | exact ih3 _ _ _ _ _ _ _ _ _ _ _
   | exact ih4 _ _ _ _ _ _ _ _ _ _ _ _ _ _ _
   | exact gangwayref05_Of.mono _ _ _ _ _ _ _ _ _
   | exact gangwayref06_Parse.mono _ _
   | exact gangwayref07_Parse.mono _ _ _ _
   | exact LeO.none _
   | refine LeO.ite ?_ ?_
   | refine LeO.bind ?_ (fun _ => ?_)
  ·intro y0 y1 y2 y3 y4 y5 y6 y7 y8 y9 y10 y11 y12 y13 y14
   unfold gangwayref20_Take.j4
   repeat' first
   | (with_reducible exact ih0 _ _ _ _ _ _ _ _ _ _)
   | (with_reducible exact ih1 _ _ _ _ _ _ _ _ _ _)
   | (with_reducible exact ih2 _ _ _ _ _ _ _ _ _ _ _ _)
   | (with_reducible exact ih3 _ _ _ _ _ _ _ _ _ _ _)
   | (with_reducible exact ih4 _ _ _ _ _ _ _ _ _ _ _ _ _ _ _)
   | (with_reducible exact gangwayref05_Of.mono _ _ _ _ _ _ _ _ _)
   | (with_reducible exact gangwayref06_Parse.mono _ _)
   | (with_reducible exact gangwayref07_Parse.mono _ _ _ _)
   | (with_reducible exact LeO.refl _)
   | (with_reducible exact LeO.none _)
   | (with_reducible refine LeO.ite ?_ ?_)
   | (with_reducible refine LeO.bind ?_ (fun _ => ?_))
   | exact ih0 _ _ _ _ _ _ _ _ _ _
   | exact ih1 _ _ _ _ _ _ _ _ _ _
   | exact ih2 _ _ _ _ _ _ _ _ _ _ _ _
   | exact ih3 _ _ _ _ _ _ _ _ _ _ _
   | exact ih4 _ _ _ _ _ _ _ _ _ _ _ _ _ _ _
   | exact gangwayref05_Of.mono _ _ _ _ _ _ _ _ _
   | exact gangwayref06_Parse.mono _ _
   | exact gangwayref07_Parse.mono _ _ _ _
   | exact LeO.none _
   | refine LeO.ite ?_ ?_
   | refine LeO.bind ?_ (fun _ => ?_)
theorem gangwayref20_Take.mono : ∀ a0 a1 a2 a3 a4 a5 a6 a7 a8 a9 k, LeO (gangwayref20_Take.f k a0 a1 a2 a3 a4 a5 a6 a7 a8 a9) (gangwayref20_Take.f (k + 1) a0 a1 a2 a3 a4 a5 a6 a7 a8 a9) := by
 intro a0 a1 a2 a3 a4 a5 a6 a7 a8 a9 k
 obtain ⟨ih0, ih1, ih2, ih3, ih4⟩ := gangwayref20_Take.mono_l k
 unfold gangwayref20_Take.f
 repeat' first
   | (with_reducible exact ih0 _ _ _ _ _ _ _ _ _ _)
   | (with_reducible exact ih1 _ _ _ _ _ _ _ _ _ _)
   | (with_reducible exact ih2 _ _ _ _ _ _ _ _ _ _ _ _)
   | (with_reducible exact ih3 _ _ _ _ _ _ _ _ _ _ _)
   | (with_reducible exact ih4 _ _ _ _ _ _ _ _ _ _ _ _ _ _ _)
   | (with_reducible exact gangwayref05_Of.mono _ _ _ _ _ _ _ _ _)
   | (with_reducible exact gangwayref06_Parse.mono _ _)
   | (with_reducible exact gangwayref07_Parse.mono _ _ _ _)
   | (with_reducible exact LeO.refl _)
   | (with_reducible exact LeO.none _)
   | (with_reducible refine LeO.ite ?_ ?_)
   | (with_reducible refine LeO.bind ?_ (fun _ => ?_))
   | exact ih0 _ _ _ _ _ _ _ _ _ _
   | exact ih1 _ _ _ _ _ _ _ _ _ _
   | exact ih2 _ _ _ _ _ _ _ _ _ _ _ _
   | exact ih3 _ _ _ _ _ _ _ _ _ _ _
   | exact ih4 _ _ _ _ _ _ _ _ _ _ _ _ _ _ _
   | exact gangwayref05_Of.mono _ _ _ _ _ _ _ _ _
   | exact gangwayref06_Parse.mono _ _
   | exact gangwayref07_Parse.mono _ _ _ _
   | exact LeO.none _
   | refine LeO.ite ?_ ?_
   | refine LeO.bind ?_ (fun _ => ?_)
set_option maxHeartbeats 8000000 in
set_option maxRecDepth 100000 in
theorem gangwayref20_Take.calls (k : Nat) (a0 : Int) (a1 : Int) (a2_0 : Int) (a2_1 : Int) (a2_2 : Bool) (a2_3 : Int) (a2_4 : Bool) (a2_5 : Int) (a2_6 : Int) (a2_7 : ByteArray) (r1 : Int) (r2 : Int) (r3 : Int) (r4 : Int) (r5 : Bool) (r6 : ByteArray) (r7 : Int) (r8 : Int) (r9 : Int) (r10 : Int) (r11 : Int) (w : World) (h : gangwayref20_Take.f k a0 a1 a2_0 a2_1 a2_2 a2_3 a2_4 a2_5 a2_6 a2_7 = some (r1, r2, r3, r4, r5, r6, r7, r8, r9, r10, r11)) :
  Calls Tryd.prog 9 #[.int .u64 a0, .int .u32 a1, .agg #[.int .u64 a2_0, .int .u64 a2_1, .bool a2_2, .int .i64 a2_3, .bool a2_4, .int .i64 a2_5, .int .i64 a2_6, .string a2_7]] w fun e w' => e = .returned (.tuple #[.agg #[.int .i64 r1, .int .u32 r2, .int .i64 r3, .int .i64 r4, .bool r5, .string r6], .agg #[.int .i64 r7, .int .u64 r8, .int .u32 r9, .int .u64 r10, .int .u32 r11]]) ∧ Below w.heap.size w w' := by
 have hu29 := Tryd.underlying29
 have hu33 := Tryd.underlying33
 have hu35 := Tryd.underlying35
 have hu64 := Tryd.underlying64
 have hu31 := Tryd.underlying31
 have HB := Aside0.mk (Below.refl w.heap.size w)
 have H := h
 unfold gangwayref20_Take.f at H
 clear h
 have HC4 := Aside0.mk H
 clear H
 go_enter Tryd.func9, Tryd.ntmps9
 go_upto_region 1 with (first | ((with_reducible refine gate_st (ty := 29) rfl ?_); refine storeC8 rfl rfl rfl rfl rfl qlch qr2c qg3m rfl ?_) | ((with_reducible refine gate_ld (ty := 29) rfl ?_); (try (with_reducible refine gate_gd rfl ?_; refine gate_guard q8ju ?_; dsimp only)); refine load_st rfl rfl rfl qlch qr2c Tryd.underlying29 rfl qg3m ?_; (try simp only [Act.put, List.setIfInBounds_toArray, List.set_cons_zero, List.set_cons_succ])) | ((with_reducible refine gate_st (ty := 33) rfl ?_); refine storeC6 rfl rfl rfl rfl rfl qlch qr2c qg3m rfl ?_) | ((with_reducible refine gate_ld (ty := 33) rfl ?_); (try (with_reducible refine gate_gd rfl ?_; refine gate_guard q8ju ?_; dsimp only)); refine load_st rfl rfl rfl qlch qr2c Tryd.underlying33 rfl qg3m ?_; (try simp only [Act.put, List.setIfInBounds_toArray, List.set_cons_zero, List.set_cons_succ])) | ((with_reducible refine gate_st (ty := 35) rfl ?_); refine storeC5 rfl rfl rfl rfl rfl qlch qr2c qg3m rfl ?_) | ((with_reducible refine gate_ld (ty := 35) rfl ?_); (try (with_reducible refine gate_gd rfl ?_; refine gate_guard q8ju ?_; dsimp only)); refine load_st rfl rfl rfl qlch qr2c Tryd.underlying35 rfl qg3m ?_; (try simp only [Act.put, List.setIfInBounds_toArray, List.set_cons_zero, List.set_cons_succ])) | ((with_reducible refine gate_st (ty := 64) rfl ?_); refine storeC10 rfl rfl rfl rfl rfl qlch qr2c qg3m rfl ?_) | ((with_reducible refine gate_ld (ty := 64) rfl ?_); (try (with_reducible refine gate_gd rfl ?_; refine gate_guard q8ju ?_; dsimp only)); refine load_st rfl rfl rfl qlch qr2c Tryd.underlying64 rfl qg3m ?_; (try simp only [Act.put, List.setIfInBounds_toArray, List.set_cons_zero, List.set_cons_succ])) | ((with_reducible refine gate_dst (N := 5) rfl ?_); refine box_event qgcr (N := 5) qgcr (cs := #[.int .u64 a2_0, .int .u64 a2_1, .bool a2_2, .int .i64 a2_3, .bool a2_4, .int .i64 a2_5, .int .i64 a2_6, .string a2_7]) (t := 29) qlto ?_; intro gb310 hg w5 hbox hb; have BK310 := Aside0.mk (hbox); have GE310 := Aside0.mk ((qisx : w.heap.size ≤ gb310)); replace HB := Aside0.mk (below_step qpag hb); clear hb hbox hg) | ((with_reducible refine gate_dst (N := 6) rfl ?_); refine box_event qgcr (N := 6) qgcr (cs := #[.int .i64 0, .int .u32 0, .int .i64 0, .int .i64 0, .bool false, .string (⟨#[]⟩ : ByteArray)]) (t := 33) qlto ?_; intro gb311 hg w6 hbox hb; have BK311 := Aside0.mk (hbox); have GE311 := Aside0.mk ((by rw [hg]; exact (below_size q19n) : w.heap.size ≤ gb311)); have NB310_311 := Aside0.mk ((q0xp : gb310 ≠ gb311)); have NB311_310 := Aside0.mk ((q649 : gb311 ≠ gb310)); replace BK310 := Aside0.mk (blk_below (g := gb310) qufl hb); replace HB := Aside0.mk (below_step q19n hb); clear hb hbox hg) | ((with_reducible refine gate_dst (N := 7) rfl ?_); refine box_event qgcr (N := 7) qgcr (cs := #[.int .i64 0, .int .u64 0, .int .u32 0, .int .u64 0, .int .u32 0]) (t := 35) qlto ?_; intro gb312 hg w7 hbox hb; have BK312 := Aside0.mk (hbox); have GE312 := Aside0.mk ((by rw [hg]; exact (below_size qero) : w.heap.size ≤ gb312)); have NB310_312 := Aside0.mk ((q0xp : gb310 ≠ gb312)); have NB312_310 := Aside0.mk ((q649 : gb312 ≠ gb310)); have NB311_312 := Aside0.mk ((q0x3 : gb311 ≠ gb312)); have NB312_311 := Aside0.mk ((q2cb : gb312 ≠ gb311)); replace BK310 := Aside0.mk (blk_below (g := gb310) qufl hb); replace BK311 := Aside0.mk (blk_below (g := gb311) qubq hb); replace HB := Aside0.mk (below_step qero hb); clear hb hbox hg))
 (try simp only [Act.put, List.setIfInBounds_toArray, List.set_cons_zero, List.set_cons_succ])
 go_cut [22] (fun v22 wc => ∃ (kq : Nat) (x22_3 : Bool), v22 = .bool x22_3 ∧ Aside0 (gangwayref20_Take.j0 kq a1 x22_3 a2_0 a2_1 a2_2 a2_3 a2_4 a2_5 a2_6 a2_7 = some (r1, r2, r3, r4, r5, r6, r7, r8, r9, r10, r11)) ∧ Aside0 (kq ≤ k) ∧ Aside0 (wc.heap[gb310]? = some (.cells #[.int .u64 a2_0, .int .u64 a2_1, .bool a2_2, .int .i64 a2_3, .bool a2_4, .int .i64 a2_5, .int .i64 a2_6, .string a2_7] 29 (0, 0))) ∧ Aside0 (wc.heap[gb311]? = some (.cells #[.int .i64 0, .int .u32 0, .int .i64 0, .int .i64 0, .bool false, .string (⟨#[]⟩ : ByteArray)] 33 (0, 0))) ∧ Aside0 (wc.heap[gb312]? = some (.cells #[.int .i64 0, .int .u64 0, .int .u32 0, .int .u64 0, .int .u32 0] 35 (0, 0))) ∧ Aside0 (Below w.heap.size w wc))
 case first =>
  have H := HC4.out
  clear HC4
  by_cases c8 : a2_0 = a0
  ·rw [if_pos c8] at H
   have c8b0 : (a2_0 == a0) = true := beq_iff_eq.mpr c8
   have c8b1 : (a2_0 != a0) = false := bne_eq_false_iff_eq.mpr c8
   clear c8
   (first | rw [c8b0] | (simp only [i64_w, i32_w]; rw [c8b0]) | skip)
   have H' := Aside0.mk H
   clear H
   have hnb9 := NB310_311.out
   have hnc9 := NB311_310.out
   have hnb10 := NB310_312.out
   have hnc10 := NB312_310.out
   obtain ⟨hcz11_0, hcz11_1, hcz11_2, hcz11_3, hcz11_4, hcz11_5, hcz11_6, hcz11_7⟩ := cells8 BK310.out
   obtain ⟨hfz11_0, hfz11_1, hfz11_2, hfz11_3, hfz11_4, hfz11_5, hfz11_6, hfz11_7⟩ := frozen8 BK310.out
   go_wp2_with (first | ((with_reducible refine gate_st (ty := 29) rfl ?_); refine storeC8 rfl rfl rfl rfl rfl qlch qr2c qg3m rfl ?_) | ((with_reducible refine gate_ld (ty := 29) rfl ?_); (try (with_reducible refine gate_gd rfl ?_; refine gate_guard q8ju ?_; dsimp only)); refine load_st rfl rfl rfl qlch qr2c Tryd.underlying29 rfl qg3m ?_; (try simp only [Act.put, List.setIfInBounds_toArray, List.set_cons_zero, List.set_cons_succ])) | ((with_reducible refine gate_st (ty := 33) rfl ?_); refine storeC6 rfl rfl rfl rfl rfl qlch qr2c qg3m rfl ?_) | ((with_reducible refine gate_ld (ty := 33) rfl ?_); (try (with_reducible refine gate_gd rfl ?_; refine gate_guard q8ju ?_; dsimp only)); refine load_st rfl rfl rfl qlch qr2c Tryd.underlying33 rfl qg3m ?_; (try simp only [Act.put, List.setIfInBounds_toArray, List.set_cons_zero, List.set_cons_succ])) | ((with_reducible refine gate_st (ty := 35) rfl ?_); refine storeC5 rfl rfl rfl rfl rfl qlch qr2c qg3m rfl ?_) | ((with_reducible refine gate_ld (ty := 35) rfl ?_); (try (with_reducible refine gate_gd rfl ?_; refine gate_guard q8ju ?_; dsimp only)); refine load_st rfl rfl rfl qlch qr2c Tryd.underlying35 rfl qg3m ?_; (try simp only [Act.put, List.setIfInBounds_toArray, List.set_cons_zero, List.set_cons_succ])) | ((with_reducible refine gate_st (ty := 64) rfl ?_); refine storeC10 rfl rfl rfl rfl rfl qlch qr2c qg3m rfl ?_) | ((with_reducible refine gate_ld (ty := 64) rfl ?_); (try (with_reducible refine gate_gd rfl ?_; refine gate_guard q8ju ?_; dsimp only)); refine load_st rfl rfl rfl qlch qr2c Tryd.underlying64 rfl qg3m ?_; (try simp only [Act.put, List.setIfInBounds_toArray, List.set_cons_zero, List.set_cons_succ])) | go_in)
   go_meet
   case rel => exact ⟨_, (false), q8z4, H', ⟨qpfc⟩, ⟨qufl⟩, ⟨qubq⟩, ⟨qkhg⟩, ⟨q48w⟩⟩
  ·rw [if_neg c8] at H
   have c8b0 : (a2_0 == a0) = false := beq_eq_false_iff_ne.mpr c8
   have c8b1 : (a2_0 != a0) = true := bne_iff_ne.mpr c8
   (first | rw [c8b0] | (simp only [i64_w, i32_w]; rw [c8b0]) | skip)
   have H' := Aside0.mk H
   clear H
   have hnb12 := NB310_311.out
   have hnc12 := NB311_310.out
   have hnb13 := NB310_312.out
   have hnc13 := NB312_310.out
   obtain ⟨hcz14_0, hcz14_1, hcz14_2, hcz14_3, hcz14_4, hcz14_5, hcz14_6, hcz14_7⟩ := cells8 BK310.out
   obtain ⟨hfz14_0, hfz14_1, hfz14_2, hfz14_3, hfz14_4, hfz14_5, hfz14_6, hfz14_7⟩ := frozen8 BK310.out
   go_wp2_with (first | ((with_reducible refine gate_st (ty := 29) rfl ?_); refine storeC8 rfl rfl rfl rfl rfl qlch qr2c qg3m rfl ?_) | ((with_reducible refine gate_ld (ty := 29) rfl ?_); (try (with_reducible refine gate_gd rfl ?_; refine gate_guard q8ju ?_; dsimp only)); refine load_st rfl rfl rfl qlch qr2c Tryd.underlying29 rfl qg3m ?_; (try simp only [Act.put, List.setIfInBounds_toArray, List.set_cons_zero, List.set_cons_succ])) | ((with_reducible refine gate_st (ty := 33) rfl ?_); refine storeC6 rfl rfl rfl rfl rfl qlch qr2c qg3m rfl ?_) | ((with_reducible refine gate_ld (ty := 33) rfl ?_); (try (with_reducible refine gate_gd rfl ?_; refine gate_guard q8ju ?_; dsimp only)); refine load_st rfl rfl rfl qlch qr2c Tryd.underlying33 rfl qg3m ?_; (try simp only [Act.put, List.setIfInBounds_toArray, List.set_cons_zero, List.set_cons_succ])) | ((with_reducible refine gate_st (ty := 35) rfl ?_); refine storeC5 rfl rfl rfl rfl rfl qlch qr2c qg3m rfl ?_) | ((with_reducible refine gate_ld (ty := 35) rfl ?_); (try (with_reducible refine gate_gd rfl ?_; refine gate_guard q8ju ?_; dsimp only)); refine load_st rfl rfl rfl qlch qr2c Tryd.underlying35 rfl qg3m ?_; (try simp only [Act.put, List.setIfInBounds_toArray, List.set_cons_zero, List.set_cons_succ])) | ((with_reducible refine gate_st (ty := 64) rfl ?_); refine storeC10 rfl rfl rfl rfl rfl qlch qr2c qg3m rfl ?_) | ((with_reducible refine gate_ld (ty := 64) rfl ?_); (try (with_reducible refine gate_gd rfl ?_; refine gate_guard q8ju ?_; dsimp only)); refine load_st rfl rfl rfl qlch qr2c Tryd.underlying64 rfl qg3m ?_; (try simp only [Act.put, List.setIfInBounds_toArray, List.set_cons_zero, List.set_cons_succ])) | go_in)
   go_meet
   case rel => exact ⟨_, ((a2_0 != 281474976710655)), q8z4, H', ⟨qpfc⟩, ⟨qufl⟩, ⟨qubq⟩, ⟨qkhg⟩, ⟨q48w⟩⟩
 case rest =>
  clear HC4
  try clear c1
  try clear p2
  try clear c8
  try clear c8b0
  try clear c8b1
  try clear c9
  try clear c10
  try clear c12
  try clear c13
  obtain ⟨kq, x22_3, rfl, HA, HJ3, BK310, BK311, BK312, HB⟩ := hcut
  cases kq with
  | zero => exact absurd HA.out (by simp [gangwayref20_Take.j0])
  | succ kj3 =>
   have H := HA.out
   clear HA
   simp only [gangwayref20_Take.j0] at H
   by_cases c15 : x22_3 = true
   ·subst c15
    rw [if_pos rfl] at H
    replace H := Option.bind_eq_some_iff.mp H
    obtain ⟨⟨t313, t314, t315, t316, t317, t318, t319, t320, t321, t322, t323⟩, A160, H⟩ := H
    try dsimp only at H
    have A16 := Aside0.mk A160
    clear A160
    simp only [Option.some.injEq, Prod.mk.injEq] at H
    obtain ⟨rfl, rfl, rfl, rfl, rfl, rfl, rfl, rfl, rfl, rfl, rfl⟩ := H
    go_wp2_with (first | ((with_reducible refine gate_st (ty := 29) rfl ?_); refine storeC8 rfl rfl rfl rfl rfl qlch qr2c qg3m rfl ?_) | ((with_reducible refine gate_ld (ty := 29) rfl ?_); (try (with_reducible refine gate_gd rfl ?_; refine gate_guard q8ju ?_; dsimp only)); refine load_st rfl rfl rfl qlch qr2c Tryd.underlying29 rfl qg3m ?_; (try simp only [Act.put, List.setIfInBounds_toArray, List.set_cons_zero, List.set_cons_succ])) | ((with_reducible refine gate_st (ty := 33) rfl ?_); refine storeC6 rfl rfl rfl rfl rfl qlch qr2c qg3m rfl ?_) | ((with_reducible refine gate_ld (ty := 33) rfl ?_); (try (with_reducible refine gate_gd rfl ?_; refine gate_guard q8ju ?_; dsimp only)); refine load_st rfl rfl rfl qlch qr2c Tryd.underlying33 rfl qg3m ?_; (try simp only [Act.put, List.setIfInBounds_toArray, List.set_cons_zero, List.set_cons_succ])) | ((with_reducible refine gate_st (ty := 35) rfl ?_); refine storeC5 rfl rfl rfl rfl rfl qlch qr2c qg3m rfl ?_) | ((with_reducible refine gate_ld (ty := 35) rfl ?_); (try (with_reducible refine gate_gd rfl ?_; refine gate_guard q8ju ?_; dsimp only)); refine load_st rfl rfl rfl qlch qr2c Tryd.underlying35 rfl qg3m ?_; (try simp only [Act.put, List.setIfInBounds_toArray, List.set_cons_zero, List.set_cons_succ])) | ((with_reducible refine gate_st (ty := 64) rfl ?_); refine storeC10 rfl rfl rfl rfl rfl qlch qr2c qg3m rfl ?_) | ((with_reducible refine gate_ld (ty := 64) rfl ?_); (try (with_reducible refine gate_gd rfl ?_; refine gate_guard q8ju ?_; dsimp only)); refine load_st rfl rfl rfl qlch qr2c Tryd.underlying64 rfl qg3m ?_; (try simp only [Act.put, List.setIfInBounds_toArray, List.set_cons_zero, List.set_cons_succ])) | ((with_reducible refine gate_callee (f := 17) rfl ?_); refine goesL_ (some 23) rfl rfl Tryd.func17 qg3m rfl #[.int .i64 2] rfl qraq ?_; (with_reducible refine (gangwayref20_why.calls 2 t313 t314 t315 t316 t317 t318 t319 t320 t321 t322 t323 _ A16.out).mono ?_); rintro e w17 ⟨rfl, hb⟩; refine ⟨_, rfl, ?_⟩; replace BK310 := Aside0.mk (blk_below (g := gb310) qufl hb); replace BK311 := Aside0.mk (blk_below (g := gb311) qubq hb); replace BK312 := Aside0.mk (blk_below (g := gb312) qkhg hb); replace HB := Aside0.mk (below_step q48w hb); obtain ⟨hcy1_310_0, hcy1_310_1, hcy1_310_2, hcy1_310_3, hcy1_310_4, hcy1_310_5, hcy1_310_6, hcy1_310_7⟩ := cells8 BK310.out; (try clear hb); (try clear hb2); (try clear hk); (try clear hi); have hnb18 := NB311_310.out; have hnc18 := NB310_311.out; have hnb19 := NB311_312.out; have hnc19 := NB312_311.out; obtain ⟨hcz20_0, hcz20_1, hcz20_2, hcz20_3, hcz20_4, hcz20_5⟩ := cells6 BK311.out; obtain ⟨hfz20_0, hfz20_1, hfz20_2, hfz20_3, hfz20_4, hfz20_5⟩ := frozen6 BK311.out; have hnb21 := NB312_310.out; have hnc21 := NB310_312.out; obtain ⟨hcz22_0, hcz22_1, hcz22_2, hcz22_3, hcz22_4⟩ := cells5 BK312.out; obtain ⟨hfz22_0, hfz22_1, hfz22_2, hfz22_3, hfz22_4⟩ := frozen5 BK312.out))
    refine bodyPost_ret (results_cc rfl _ _ gb311 gb312 33 35 #[.int .i64 t313, .int .u32 t314, .int .i64 t315, .int .i64 t316, .bool t317, .string t318] #[.int .i64 t319, .int .u64 t320, .int .u32 t321, .int .u64 t322, .int .u32 t323] (0, 0) (0, 0) _ _ rfl qvqw Tryd.underlying33 rfl qg3m rfl q95j Tryd.underlying35 rfl qg3m) rfl ?_
    exact ⟨qxu5, q48w⟩
   ·replace c15 := Bool.eq_false_iff.mpr c15
    subst c15
    rw [if_neg (show ¬ (false = true) by decide)] at H
    have HC23 := Aside0.mk H
    clear H
    go_upto_region 3 with (fail)
    go_cut [44] (fun v44 wc => ∃ (kq : Nat) (x44_22 : Bool), v44 = .bool x44_22 ∧ Aside0 (gangwayref20_Take.j1 kq a1 x44_22 a2_0 a2_1 a2_2 a2_3 a2_4 a2_5 a2_6 a2_7 = some (r1, r2, r3, r4, r5, r6, r7, r8, r9, r10, r11)) ∧ Aside0 (kq ≤ kj3) ∧ Aside0 (wc.heap[gb310]? = some (.cells #[.int .u64 a2_0, .int .u64 a2_1, .bool a2_2, .int .i64 a2_3, .bool a2_4, .int .i64 a2_5, .int .i64 a2_6, .string a2_7] 29 (0, 0))) ∧ Aside0 (wc.heap[gb311]? = some (.cells #[.int .i64 0, .int .u32 0, .int .i64 0, .int .i64 0, .bool false, .string (⟨#[]⟩ : ByteArray)] 33 (0, 0))) ∧ Aside0 (wc.heap[gb312]? = some (.cells #[.int .i64 0, .int .u64 0, .int .u32 0, .int .u64 0, .int .u32 0] 35 (0, 0))) ∧ Aside0 (Below w.heap.size w wc))
    case first =>
     have H := HC23.out
     clear HC23
     by_cases c24 : a2_2 = true
     ·subst c24
      rw [if_pos rfl] at H
      have H' := Aside0.mk H
      clear H
      have hnb25 := NB310_311.out
      have hnc25 := NB311_310.out
      have hnb26 := NB310_312.out
      have hnc26 := NB312_310.out
      obtain ⟨hcz27_0, hcz27_1, hcz27_2, hcz27_3, hcz27_4, hcz27_5, hcz27_6, hcz27_7⟩ := cells8 BK310.out
      obtain ⟨hfz27_0, hfz27_1, hfz27_2, hfz27_3, hfz27_4, hfz27_5, hfz27_6, hfz27_7⟩ := frozen8 BK310.out
      go_wp2_with (first | ((with_reducible refine gate_st (ty := 29) rfl ?_); refine storeC8 rfl rfl rfl rfl rfl qlch qr2c qg3m rfl ?_) | ((with_reducible refine gate_ld (ty := 29) rfl ?_); (try (with_reducible refine gate_gd rfl ?_; refine gate_guard q8ju ?_; dsimp only)); refine load_st rfl rfl rfl qlch qr2c Tryd.underlying29 rfl qg3m ?_; (try simp only [Act.put, List.setIfInBounds_toArray, List.set_cons_zero, List.set_cons_succ])) | ((with_reducible refine gate_st (ty := 33) rfl ?_); refine storeC6 rfl rfl rfl rfl rfl qlch qr2c qg3m rfl ?_) | ((with_reducible refine gate_ld (ty := 33) rfl ?_); (try (with_reducible refine gate_gd rfl ?_; refine gate_guard q8ju ?_; dsimp only)); refine load_st rfl rfl rfl qlch qr2c Tryd.underlying33 rfl qg3m ?_; (try simp only [Act.put, List.setIfInBounds_toArray, List.set_cons_zero, List.set_cons_succ])) | ((with_reducible refine gate_st (ty := 35) rfl ?_); refine storeC5 rfl rfl rfl rfl rfl qlch qr2c qg3m rfl ?_) | ((with_reducible refine gate_ld (ty := 35) rfl ?_); (try (with_reducible refine gate_gd rfl ?_; refine gate_guard q8ju ?_; dsimp only)); refine load_st rfl rfl rfl qlch qr2c Tryd.underlying35 rfl qg3m ?_; (try simp only [Act.put, List.setIfInBounds_toArray, List.set_cons_zero, List.set_cons_succ])) | ((with_reducible refine gate_st (ty := 64) rfl ?_); refine storeC10 rfl rfl rfl rfl rfl qlch qr2c qg3m rfl ?_) | ((with_reducible refine gate_ld (ty := 64) rfl ?_); (try (with_reducible refine gate_gd rfl ?_; refine gate_guard q8ju ?_; dsimp only)); refine load_st rfl rfl rfl qlch qr2c Tryd.underlying64 rfl qg3m ?_; (try simp only [Act.put, List.setIfInBounds_toArray, List.set_cons_zero, List.set_cons_succ])) | go_in)
      go_meet
      case rel => exact ⟨_, (true), q8z4, H', ⟨q6v2⟩, ⟨qufl⟩, ⟨qubq⟩, ⟨qkhg⟩, ⟨q48w⟩⟩
     ·replace c24 := Bool.eq_false_iff.mpr c24
      subst c24
      rw [if_neg (show ¬ (false = true) by decide)] at H
      replace H := Option.bind_eq_some_iff.mp H
      obtain ⟨t324, A280, H⟩ := H
      try dsimp only at H
      have A28 := Aside0.mk A280
      clear A280
      by_cases c29 : t324 = true
      ·subst c29
       rw [if_pos rfl] at H
       by_cases c30 : a2_6 = 2048
       ·rw [if_pos c30] at H
        have c30b0 : (a2_6 == 2048) = true := beq_iff_eq.mpr c30
        have c30b1 : (a2_6 != 2048) = false := bne_eq_false_iff_eq.mpr c30
        clear c30
        (first | rw [c30b0] | (simp only [i64_w, i32_w]; rw [c30b0]) | skip)
        have H' := Aside0.mk H
        clear H
        have hnb31 := NB310_311.out
        have hnc31 := NB311_310.out
        have hnb32 := NB310_312.out
        have hnc32 := NB312_310.out
        obtain ⟨hcz33_0, hcz33_1, hcz33_2, hcz33_3, hcz33_4, hcz33_5, hcz33_6, hcz33_7⟩ := cells8 BK310.out
        obtain ⟨hfz33_0, hfz33_1, hfz33_2, hfz33_3, hfz33_4, hfz33_5, hfz33_6, hfz33_7⟩ := frozen8 BK310.out
        go_wp2_with (first | ((with_reducible refine gate_st (ty := 29) rfl ?_); refine storeC8 rfl rfl rfl rfl rfl qlch qr2c qg3m rfl ?_) | ((with_reducible refine gate_ld (ty := 29) rfl ?_); (try (with_reducible refine gate_gd rfl ?_; refine gate_guard q8ju ?_; dsimp only)); refine load_st rfl rfl rfl qlch qr2c Tryd.underlying29 rfl qg3m ?_; (try simp only [Act.put, List.setIfInBounds_toArray, List.set_cons_zero, List.set_cons_succ])) | ((with_reducible refine gate_st (ty := 33) rfl ?_); refine storeC6 rfl rfl rfl rfl rfl qlch qr2c qg3m rfl ?_) | ((with_reducible refine gate_ld (ty := 33) rfl ?_); (try (with_reducible refine gate_gd rfl ?_; refine gate_guard q8ju ?_; dsimp only)); refine load_st rfl rfl rfl qlch qr2c Tryd.underlying33 rfl qg3m ?_; (try simp only [Act.put, List.setIfInBounds_toArray, List.set_cons_zero, List.set_cons_succ])) | ((with_reducible refine gate_st (ty := 35) rfl ?_); refine storeC5 rfl rfl rfl rfl rfl qlch qr2c qg3m rfl ?_) | ((with_reducible refine gate_ld (ty := 35) rfl ?_); (try (with_reducible refine gate_gd rfl ?_; refine gate_guard q8ju ?_; dsimp only)); refine load_st rfl rfl rfl qlch qr2c Tryd.underlying35 rfl qg3m ?_; (try simp only [Act.put, List.setIfInBounds_toArray, List.set_cons_zero, List.set_cons_succ])) | ((with_reducible refine gate_st (ty := 64) rfl ?_); refine storeC10 rfl rfl rfl rfl rfl qlch qr2c qg3m rfl ?_) | ((with_reducible refine gate_ld (ty := 64) rfl ?_); (try (with_reducible refine gate_gd rfl ?_; refine gate_guard q8ju ?_; dsimp only)); refine load_st rfl rfl rfl qlch qr2c Tryd.underlying64 rfl qg3m ?_; (try simp only [Act.put, List.setIfInBounds_toArray, List.set_cons_zero, List.set_cons_succ])) | (go_at_call 18; (with_reducible refine (gangwayref02_Own.calls a2_1 true _ A28.out).mono ?_); rintro e w' ⟨rfl, ⟨nd, rfl⟩⟩))
        go_meet
        case rel => exact ⟨_, (false), q8z4, H', ⟨q6v2⟩, ⟨qufl⟩, ⟨qubq⟩, ⟨qkhg⟩, ⟨q48w⟩⟩
       ·rw [if_neg c30] at H
        have c30b0 : (a2_6 == 2048) = false := beq_eq_false_iff_ne.mpr c30
        have c30b1 : (a2_6 != 2048) = true := bne_iff_ne.mpr c30
        (first | rw [c30b0] | (simp only [i64_w, i32_w]; rw [c30b0]) | skip)
        have H' := Aside0.mk H
        clear H
        have hnb34 := NB310_311.out
        have hnc34 := NB311_310.out
        have hnb35 := NB310_312.out
        have hnc35 := NB312_310.out
        obtain ⟨hcz36_0, hcz36_1, hcz36_2, hcz36_3, hcz36_4, hcz36_5, hcz36_6, hcz36_7⟩ := cells8 BK310.out
        obtain ⟨hfz36_0, hfz36_1, hfz36_2, hfz36_3, hfz36_4, hfz36_5, hfz36_6, hfz36_7⟩ := frozen8 BK310.out
        go_wp2_with (first | ((with_reducible refine gate_st (ty := 29) rfl ?_); refine storeC8 rfl rfl rfl rfl rfl qlch qr2c qg3m rfl ?_) | ((with_reducible refine gate_ld (ty := 29) rfl ?_); (try (with_reducible refine gate_gd rfl ?_; refine gate_guard q8ju ?_; dsimp only)); refine load_st rfl rfl rfl qlch qr2c Tryd.underlying29 rfl qg3m ?_; (try simp only [Act.put, List.setIfInBounds_toArray, List.set_cons_zero, List.set_cons_succ])) | ((with_reducible refine gate_st (ty := 33) rfl ?_); refine storeC6 rfl rfl rfl rfl rfl qlch qr2c qg3m rfl ?_) | ((with_reducible refine gate_ld (ty := 33) rfl ?_); (try (with_reducible refine gate_gd rfl ?_; refine gate_guard q8ju ?_; dsimp only)); refine load_st rfl rfl rfl qlch qr2c Tryd.underlying33 rfl qg3m ?_; (try simp only [Act.put, List.setIfInBounds_toArray, List.set_cons_zero, List.set_cons_succ])) | ((with_reducible refine gate_st (ty := 35) rfl ?_); refine storeC5 rfl rfl rfl rfl rfl qlch qr2c qg3m rfl ?_) | ((with_reducible refine gate_ld (ty := 35) rfl ?_); (try (with_reducible refine gate_gd rfl ?_; refine gate_guard q8ju ?_; dsimp only)); refine load_st rfl rfl rfl qlch qr2c Tryd.underlying35 rfl qg3m ?_; (try simp only [Act.put, List.setIfInBounds_toArray, List.set_cons_zero, List.set_cons_succ])) | ((with_reducible refine gate_st (ty := 64) rfl ?_); refine storeC10 rfl rfl rfl rfl rfl qlch qr2c qg3m rfl ?_) | ((with_reducible refine gate_ld (ty := 64) rfl ?_); (try (with_reducible refine gate_gd rfl ?_; refine gate_guard q8ju ?_; dsimp only)); refine load_st rfl rfl rfl qlch qr2c Tryd.underlying64 rfl qg3m ?_; (try simp only [Act.put, List.setIfInBounds_toArray, List.set_cons_zero, List.set_cons_succ])) | (go_at_call 18; (with_reducible refine (gangwayref02_Own.calls a2_1 true _ A28.out).mono ?_); rintro e w' ⟨rfl, ⟨nd, rfl⟩⟩))
        go_meet
        case rel => exact ⟨_, ((a2_6 != 2054)), q8z4, H', ⟨q6v2⟩, ⟨qufl⟩, ⟨qubq⟩, ⟨qkhg⟩, ⟨q48w⟩⟩
      ·replace c29 := Bool.eq_false_iff.mpr c29
       subst c29
       rw [if_neg (show ¬ (false = true) by decide)] at H
       have H' := Aside0.mk H
       clear H
       have hnb37 := NB310_311.out
       have hnc37 := NB311_310.out
       have hnb38 := NB310_312.out
       have hnc38 := NB312_310.out
       obtain ⟨hcz39_0, hcz39_1, hcz39_2, hcz39_3, hcz39_4, hcz39_5, hcz39_6, hcz39_7⟩ := cells8 BK310.out
       obtain ⟨hfz39_0, hfz39_1, hfz39_2, hfz39_3, hfz39_4, hfz39_5, hfz39_6, hfz39_7⟩ := frozen8 BK310.out
       go_wp2_with (first | ((with_reducible refine gate_st (ty := 29) rfl ?_); refine storeC8 rfl rfl rfl rfl rfl qlch qr2c qg3m rfl ?_) | ((with_reducible refine gate_ld (ty := 29) rfl ?_); (try (with_reducible refine gate_gd rfl ?_; refine gate_guard q8ju ?_; dsimp only)); refine load_st rfl rfl rfl qlch qr2c Tryd.underlying29 rfl qg3m ?_; (try simp only [Act.put, List.setIfInBounds_toArray, List.set_cons_zero, List.set_cons_succ])) | ((with_reducible refine gate_st (ty := 33) rfl ?_); refine storeC6 rfl rfl rfl rfl rfl qlch qr2c qg3m rfl ?_) | ((with_reducible refine gate_ld (ty := 33) rfl ?_); (try (with_reducible refine gate_gd rfl ?_; refine gate_guard q8ju ?_; dsimp only)); refine load_st rfl rfl rfl qlch qr2c Tryd.underlying33 rfl qg3m ?_; (try simp only [Act.put, List.setIfInBounds_toArray, List.set_cons_zero, List.set_cons_succ])) | ((with_reducible refine gate_st (ty := 35) rfl ?_); refine storeC5 rfl rfl rfl rfl rfl qlch qr2c qg3m rfl ?_) | ((with_reducible refine gate_ld (ty := 35) rfl ?_); (try (with_reducible refine gate_gd rfl ?_; refine gate_guard q8ju ?_; dsimp only)); refine load_st rfl rfl rfl qlch qr2c Tryd.underlying35 rfl qg3m ?_; (try simp only [Act.put, List.setIfInBounds_toArray, List.set_cons_zero, List.set_cons_succ])) | ((with_reducible refine gate_st (ty := 64) rfl ?_); refine storeC10 rfl rfl rfl rfl rfl qlch qr2c qg3m rfl ?_) | ((with_reducible refine gate_ld (ty := 64) rfl ?_); (try (with_reducible refine gate_gd rfl ?_; refine gate_guard q8ju ?_; dsimp only)); refine load_st rfl rfl rfl qlch qr2c Tryd.underlying64 rfl qg3m ?_; (try simp only [Act.put, List.setIfInBounds_toArray, List.set_cons_zero, List.set_cons_succ])) | (go_at_call 18; (with_reducible refine (gangwayref02_Own.calls a2_1 false _ A28.out).mono ?_); rintro e w' ⟨rfl, ⟨nd, rfl⟩⟩))
       go_meet
       case rel => exact ⟨_, (true), q8z4, H', ⟨q6v2⟩, ⟨qufl⟩, ⟨qubq⟩, ⟨qkhg⟩, ⟨q48w⟩⟩
    case rest =>
     clear HC23
     try clear c1
     try clear c2
     try clear p2
     try clear c3
     try clear c8
     try clear c8b0
     try clear c8b1
     try clear c9
     try clear c10
     try clear c12
     try clear c13
     try clear c15
     try clear c17
     try clear c18
     try clear c19
     try clear c21
     try clear c24
     try clear c25
     try clear c26
     try clear c29
     try clear c30
     try clear c30b0
     try clear c30b1
     try clear c31
     try clear c32
     try clear c34
     try clear c35
     try clear c37
     try clear c38
     try clear p2
     obtain ⟨kq, x44_22, rfl, HA, HJ22, BK310, BK311, BK312, HB⟩ := hcut
     cases kq with
     | zero => exact absurd HA.out (by simp [gangwayref20_Take.j1])
     | succ kj22 =>
      have H := HA.out
      clear HA
      simp only [gangwayref20_Take.j1] at H
      by_cases c40 : x44_22 = true
      ·subst c40
       rw [if_pos rfl] at H
       replace H := Option.bind_eq_some_iff.mp H
       obtain ⟨⟨t325, t326, t327, t328, t329, t330, t331, t332, t333, t334, t335⟩, A410, H⟩ := H
       try dsimp only at H
       have A41 := Aside0.mk A410
       clear A410
       simp only [Option.some.injEq, Prod.mk.injEq] at H
       obtain ⟨rfl, rfl, rfl, rfl, rfl, rfl, rfl, rfl, rfl, rfl, rfl⟩ := H
       go_wp2_with (first | ((with_reducible refine gate_st (ty := 29) rfl ?_); refine storeC8 rfl rfl rfl rfl rfl qlch qr2c qg3m rfl ?_) | ((with_reducible refine gate_ld (ty := 29) rfl ?_); (try (with_reducible refine gate_gd rfl ?_; refine gate_guard q8ju ?_; dsimp only)); refine load_st rfl rfl rfl qlch qr2c Tryd.underlying29 rfl qg3m ?_; (try simp only [Act.put, List.setIfInBounds_toArray, List.set_cons_zero, List.set_cons_succ])) | ((with_reducible refine gate_st (ty := 33) rfl ?_); refine storeC6 rfl rfl rfl rfl rfl qlch qr2c qg3m rfl ?_) | ((with_reducible refine gate_ld (ty := 33) rfl ?_); (try (with_reducible refine gate_gd rfl ?_; refine gate_guard q8ju ?_; dsimp only)); refine load_st rfl rfl rfl qlch qr2c Tryd.underlying33 rfl qg3m ?_; (try simp only [Act.put, List.setIfInBounds_toArray, List.set_cons_zero, List.set_cons_succ])) | ((with_reducible refine gate_st (ty := 35) rfl ?_); refine storeC5 rfl rfl rfl rfl rfl qlch qr2c qg3m rfl ?_) | ((with_reducible refine gate_ld (ty := 35) rfl ?_); (try (with_reducible refine gate_gd rfl ?_; refine gate_guard q8ju ?_; dsimp only)); refine load_st rfl rfl rfl qlch qr2c Tryd.underlying35 rfl qg3m ?_; (try simp only [Act.put, List.setIfInBounds_toArray, List.set_cons_zero, List.set_cons_succ])) | ((with_reducible refine gate_st (ty := 64) rfl ?_); refine storeC10 rfl rfl rfl rfl rfl qlch qr2c qg3m rfl ?_) | ((with_reducible refine gate_ld (ty := 64) rfl ?_); (try (with_reducible refine gate_gd rfl ?_; refine gate_guard q8ju ?_; dsimp only)); refine load_st rfl rfl rfl qlch qr2c Tryd.underlying64 rfl qg3m ?_; (try simp only [Act.put, List.setIfInBounds_toArray, List.set_cons_zero, List.set_cons_succ])) | ((with_reducible refine gate_callee (f := 17) rfl ?_); refine goesL_ (some 45) rfl rfl Tryd.func17 qg3m rfl #[.int .i64 3] rfl qraq ?_; (with_reducible refine (gangwayref20_why.calls 3 t325 t326 t327 t328 t329 t330 t331 t332 t333 t334 t335 _ A41.out).mono ?_); rintro e w42 ⟨rfl, hb⟩; refine ⟨_, rfl, ?_⟩; replace BK310 := Aside0.mk (blk_below (g := gb310) qufl hb); replace BK311 := Aside0.mk (blk_below (g := gb311) qubq hb); replace BK312 := Aside0.mk (blk_below (g := gb312) qkhg hb); replace HB := Aside0.mk (below_step q48w hb); obtain ⟨hcy1_310_0, hcy1_310_1, hcy1_310_2, hcy1_310_3, hcy1_310_4, hcy1_310_5, hcy1_310_6, hcy1_310_7⟩ := cells8 BK310.out; (try clear hb); (try clear hb2); (try clear hk); (try clear hi); have hnb43 := NB311_310.out; have hnc43 := NB310_311.out; have hnb44 := NB311_312.out; have hnc44 := NB312_311.out; obtain ⟨hcz45_0, hcz45_1, hcz45_2, hcz45_3, hcz45_4, hcz45_5⟩ := cells6 BK311.out; obtain ⟨hfz45_0, hfz45_1, hfz45_2, hfz45_3, hfz45_4, hfz45_5⟩ := frozen6 BK311.out; have hnb46 := NB312_310.out; have hnc46 := NB310_312.out; obtain ⟨hcz47_0, hcz47_1, hcz47_2, hcz47_3, hcz47_4⟩ := cells5 BK312.out; obtain ⟨hfz47_0, hfz47_1, hfz47_2, hfz47_3, hfz47_4⟩ := frozen5 BK312.out))
       refine bodyPost_ret (results_cc rfl _ _ gb311 gb312 33 35 #[.int .i64 t325, .int .u32 t326, .int .i64 t327, .int .i64 t328, .bool t329, .string t330] #[.int .i64 t331, .int .u64 t332, .int .u32 t333, .int .u64 t334, .int .u32 t335] (0, 0) (0, 0) _ _ rfl qvqw Tryd.underlying33 rfl qg3m rfl q95j Tryd.underlying35 rfl qg3m) rfl ?_
       exact ⟨qxu5, q48w⟩
      ·replace c40 := Bool.eq_false_iff.mpr c40
       subst c40
       rw [if_neg (show ¬ (false = true) by decide)] at H
       by_cases c48 : a2_6 = 2054
       ·rw [if_pos c48] at H
        have c48b0 : (a2_6 == 2054) = true := beq_iff_eq.mpr c48
        have c48b1 : (a2_6 != 2054) = false := bne_eq_false_iff_eq.mpr c48
        clear c48
        replace H := Option.bind_eq_some_iff.mp H
        obtain ⟨⟨t336, t337, t338, t339, t340, t341⟩, A490, H⟩ := H
        try dsimp only at H
        have A49 := Aside0.mk A490
        clear A490
        by_cases c50 : t341 = true
        ·subst c50
         rw [if_pos rfl] at H
         simp only [Option.some.injEq, Prod.mk.injEq] at H
         obtain ⟨rfl, rfl, rfl, rfl, rfl, rfl, rfl, rfl, rfl, rfl, rfl⟩ := H
         have hnb51 := NB310_311.out
         have hnc51 := NB311_310.out
         have hnb52 := NB310_312.out
         have hnc52 := NB312_310.out
         obtain ⟨hcz53_0, hcz53_1, hcz53_2, hcz53_3, hcz53_4, hcz53_5, hcz53_6, hcz53_7⟩ := cells8 BK310.out
         obtain ⟨hfz53_0, hfz53_1, hfz53_2, hfz53_3, hfz53_4, hfz53_5, hfz53_6, hfz53_7⟩ := frozen8 BK310.out
         try go_wp2_with (first | ((with_reducible refine gate_st (ty := 29) rfl ?_); refine storeC8 rfl rfl rfl rfl rfl qlch qr2c qg3m rfl ?_) | ((with_reducible refine gate_ld (ty := 29) rfl ?_); (try (with_reducible refine gate_gd rfl ?_; refine gate_guard q8ju ?_; dsimp only)); refine load_st rfl rfl rfl qlch qr2c Tryd.underlying29 rfl qg3m ?_; (try simp only [Act.put, List.setIfInBounds_toArray, List.set_cons_zero, List.set_cons_succ])) | ((with_reducible refine gate_st (ty := 33) rfl ?_); refine storeC6 rfl rfl rfl rfl rfl qlch qr2c qg3m rfl ?_) | ((with_reducible refine gate_ld (ty := 33) rfl ?_); (try (with_reducible refine gate_gd rfl ?_; refine gate_guard q8ju ?_; dsimp only)); refine load_st rfl rfl rfl qlch qr2c Tryd.underlying33 rfl qg3m ?_; (try simp only [Act.put, List.setIfInBounds_toArray, List.set_cons_zero, List.set_cons_succ])) | ((with_reducible refine gate_st (ty := 35) rfl ?_); refine storeC5 rfl rfl rfl rfl rfl qlch qr2c qg3m rfl ?_) | ((with_reducible refine gate_ld (ty := 35) rfl ?_); (try (with_reducible refine gate_gd rfl ?_; refine gate_guard q8ju ?_; dsimp only)); refine load_st rfl rfl rfl qlch qr2c Tryd.underlying35 rfl qg3m ?_; (try simp only [Act.put, List.setIfInBounds_toArray, List.set_cons_zero, List.set_cons_succ])) | ((with_reducible refine gate_st (ty := 64) rfl ?_); refine storeC10 rfl rfl rfl rfl rfl qlch qr2c qg3m rfl ?_) | ((with_reducible refine gate_ld (ty := 64) rfl ?_); (try (with_reducible refine gate_gd rfl ?_; refine gate_guard q8ju ?_; dsimp only)); refine load_st rfl rfl rfl qlch qr2c Tryd.underlying64 rfl qg3m ?_; (try simp only [Act.put, List.setIfInBounds_toArray, List.set_cons_zero, List.set_cons_succ])) | ((with_reducible refine gate_callee (f := 19) rfl ?_); refine goesL_ (some 53) rfl rfl Tryd.func19 qg3m rfl #[.agg #[.int .u64 a2_0, .int .u64 a2_1, .bool a2_2, .int .i64 a2_3, .bool a2_4, .int .i64 a2_5, .int .i64 a2_6, .string a2_7]] rfl qraq ?_; (with_reducible refine (gangwayref05_Of.calls kj22 a2_0 a2_1 a2_2 a2_3 a2_4 a2_5 a2_6 a2_7 t336 t337 t338 t339 t340 true _ A49.out).mono ?_); rintro e w54 ⟨rfl, hb⟩; refine ⟨_, rfl, ?_⟩; replace BK310 := Aside0.mk (blk_below (g := gb310) qufl hb); replace BK311 := Aside0.mk (blk_below (g := gb311) qubq hb); replace BK312 := Aside0.mk (blk_below (g := gb312) qkhg hb); replace HB := Aside0.mk (below_step q48w hb); obtain ⟨hcy1_310_0, hcy1_310_1, hcy1_310_2, hcy1_310_3, hcy1_310_4, hcy1_310_5, hcy1_310_6, hcy1_310_7⟩ := cells8 BK310.out; (try clear hb); (try clear hb2); (try clear hk); (try clear hi)) | ((with_reducible refine gate_dst (N := 8) rfl ?_); refine box_event qgcr (N := 8) qgcr (cs := #[.int .i64 0, .int .u64 0, .int .u32 0, .int .u64 0, .int .u32 0]) (t := 35) qlto ?_; intro gb342 hg w55 hbox hb; have BK342 := Aside0.mk (hbox); have GE342 := Aside0.mk ((by rw [hg]; exact (below_size q48w) : w.heap.size ≤ gb342)); have NB310_342 := Aside0.mk ((q0xp : gb310 ≠ gb342)); have NB342_310 := Aside0.mk ((q649 : gb342 ≠ gb310)); have NB311_342 := Aside0.mk ((q0x3 : gb311 ≠ gb342)); have NB342_311 := Aside0.mk ((q2cb : gb342 ≠ gb311)); have NB312_342 := Aside0.mk ((qxy7 : gb312 ≠ gb342)); have NB342_312 := Aside0.mk ((qwky : gb342 ≠ gb312)); replace BK310 := Aside0.mk (blk_below (g := gb310) qufl hb); replace BK311 := Aside0.mk (blk_below (g := gb311) qubq hb); replace BK312 := Aside0.mk (blk_below (g := gb312) qkhg hb); replace HB := Aside0.mk (below_step q48w hb); obtain ⟨hcy2_310_0, hcy2_310_1, hcy2_310_2, hcy2_310_3, hcy2_310_4, hcy2_310_5, hcy2_310_6, hcy2_310_7⟩ := cells8 BK310.out; clear hb hbox hg; have hnb56 := NB342_310.out; have hnc56 := NB310_342.out; have hnb57 := NB342_311.out; have hnc57 := NB311_342.out; have hnb58 := NB342_312.out; have hnc58 := NB312_342.out; obtain ⟨hcz59_0, hcz59_1, hcz59_2, hcz59_3, hcz59_4⟩ := cells5 BK342.out; obtain ⟨hfz59_0, hfz59_1, hfz59_2, hfz59_3, hfz59_4⟩ := frozen5 BK342.out))
         have n0_ : Aside0 ((((((w55.setCell ⟨gb342, 0, none⟩ (.int .i64 t336)).setCell ⟨gb342, 1, none⟩ (.int .u64 t337)).setCell ⟨gb342, 2, none⟩ (.int .u32 t338)).setCell ⟨gb342, 3, none⟩ (.int .u64 t339)).setCell ⟨gb342, 4, none⟩ (.int .u32 t340)).heap[gb310]? = some (.cells #[.int .u64 a2_0, .int .u64 a2_1, .bool a2_2, .int .i64 a2_3, .bool a2_4, .int .i64 a2_5, .int .i64 a2_6, .string a2_7] 29 (0, 0))) := ⟨q4h6⟩
         have n1_ : Aside0 ((((((w55.setCell ⟨gb342, 0, none⟩ (.int .i64 t336)).setCell ⟨gb342, 1, none⟩ (.int .u64 t337)).setCell ⟨gb342, 2, none⟩ (.int .u32 t338)).setCell ⟨gb342, 3, none⟩ (.int .u64 t339)).setCell ⟨gb342, 4, none⟩ (.int .u32 t340)).heap[gb311]? = some (.cells #[.int .i64 0, .int .u32 0, .int .i64 0, .int .i64 0, .bool false, .string (⟨#[]⟩ : ByteArray)] 33 (0, 0))) := ⟨q9p0⟩
         have n2_ : Aside0 ((((((w55.setCell ⟨gb342, 0, none⟩ (.int .i64 t336)).setCell ⟨gb342, 1, none⟩ (.int .u64 t337)).setCell ⟨gb342, 2, none⟩ (.int .u32 t338)).setCell ⟨gb342, 3, none⟩ (.int .u64 t339)).setCell ⟨gb342, 4, none⟩ (.int .u32 t340)).heap[gb312]? = some (.cells #[.int .i64 0, .int .u64 0, .int .u32 0, .int .u64 0, .int .u32 0] 35 (0, 0))) := ⟨q4gu⟩
         have n3_ : Aside0 ((((((w55.setCell ⟨gb342, 0, none⟩ (.int .i64 t336)).setCell ⟨gb342, 1, none⟩ (.int .u64 t337)).setCell ⟨gb342, 2, none⟩ (.int .u32 t338)).setCell ⟨gb342, 3, none⟩ (.int .u64 t339)).setCell ⟨gb342, 4, none⟩ (.int .u32 t340)).heap[gb342]? = some (.cells #[.int .i64 t336, .int .u64 t337, .int .u32 t338, .int .u64 t339, .int .u32 t340] 35 (0, 0))) := ⟨(by (with_reducible repeat (first | refine blk_drewN ?_ _ | refine blk_drew ?_ | refine blk_alloc ?_ _)); exact put5_0_5 qu4m)⟩
         have n4_ : Aside0 (Below w.heap.size w (((((w55.setCell ⟨gb342, 0, none⟩ (.int .i64 t336)).setCell ⟨gb342, 1, none⟩ (.int .u64 t337)).setCell ⟨gb342, 2, none⟩ (.int .u32 t338)).setCell ⟨gb342, 3, none⟩ (.int .u64 t339)).setCell ⟨gb342, 4, none⟩ (.int .u32 t340))) := ⟨qbek⟩
         (try clear BK310)
         (try clear BK311)
         (try clear BK312)
         (try clear BK342)
         (try clear HB)
         generalize (((((w55.setCell ⟨gb342, 0, none⟩ (.int .i64 t336)).setCell ⟨gb342, 1, none⟩ (.int .u64 t337)).setCell ⟨gb342, 2, none⟩ (.int .u32 t338)).setCell ⟨gb342, 3, none⟩ (.int .u64 t339)).setCell ⟨gb342, 4, none⟩ (.int .u32 t340)) = w60 at n0_ n1_ n2_ n3_ n4_ ⊢
         have BK310 := n0_
         have BK311 := n1_
         have BK312 := n2_
         have BK342 := n3_
         have HB := n4_
         clear n0_ n1_ n2_ n3_ n4_
         replace BK310 := Aside0.mk (blk_drew BK310.out)
         replace BK311 := Aside0.mk (blk_drew BK311.out)
         replace BK312 := Aside0.mk (blk_drew BK312.out)
         replace BK342 := Aside0.mk (blk_drew BK342.out)
         replace HB := Aside0.mk (below_drew1 HB.out)
         refine start_ (n := 4) (S := fun w' => w'.cell? ⟨gb342, 0, none⟩ = some (.int .i64 t336) ∧ w'.cell? ⟨gb342, 1, none⟩ = some (.int .u64 t337) ∧ w'.cell? ⟨gb342, 2, none⟩ = some (.int .u32 t338) ∧ w'.cell? ⟨gb342, 3, none⟩ = some (.int .u64 t339) ∧ w'.cell? ⟨gb342, 4, none⟩ = some (.int .u32 t340)) (ds := []) #[false, false, false, false] qg3m rfl rfl ⟨(blk_cell BK342.out 0).trans rfl, (blk_cell BK342.out 1).trans rfl, (blk_cell BK342.out 2).trans rfl, (blk_cell BK342.out 3).trans rfl, (blk_cell BK342.out 4).trans rfl⟩ (fun hHeld => ?_)
         generalize w60.drew = w61 at BK310 BK311 BK312 BK342 HB hHeld ⊢
         refine pu_49e (i := 0) (N := some 61) #[true, false, false, false] ?_
         refine tk_e63 (i := 1) (N := some 62) #[true, true, false, false] hHeld ?_
         refine one_ (i := 2) (N := none) #[true, true, true, false] rfl rfl qg3m qomw (fun K hK => ?_)
         have hs62 : w61.cell? ⟨gb311, 0, none⟩ = some (.int .i64 0) := (blk_cell BK311.out 0).trans rfl
         have hfs62 := blk_frozen BK311.out 0
         have hns62_0 := NB310_311.out
         have hns62_2 := NB312_311.out
         have hns62_3 := NB342_311.out
         have hms62_0 := NB311_310.out
         have hms62_2 := NB311_312.out
         have hms62_3 := NB311_342.out
         have hs63 : w61.cell? ⟨gb311, 1, none⟩ = some (.int .u32 0) := (blk_cell BK311.out 1).trans rfl
         have hfs63 := blk_frozen BK311.out 1
         have hns63_0 := NB310_311.out
         have hns63_2 := NB312_311.out
         have hns63_3 := NB342_311.out
         have hms63_0 := NB311_310.out
         have hms63_2 := NB311_312.out
         have hms63_3 := NB311_342.out
         have hs64 : w61.cell? ⟨gb311, 2, none⟩ = some (.int .i64 0) := (blk_cell BK311.out 2).trans rfl
         have hfs64 := blk_frozen BK311.out 2
         have hns64_0 := NB310_311.out
         have hns64_2 := NB312_311.out
         have hns64_3 := NB342_311.out
         have hms64_0 := NB311_310.out
         have hms64_2 := NB311_312.out
         have hms64_3 := NB311_342.out
         have hs65 : w61.cell? ⟨gb311, 3, none⟩ = some (.int .i64 0) := (blk_cell BK311.out 3).trans rfl
         have hfs65 := blk_frozen BK311.out 3
         have hns65_0 := NB310_311.out
         have hns65_2 := NB312_311.out
         have hns65_3 := NB342_311.out
         have hms65_0 := NB311_310.out
         have hms65_2 := NB311_312.out
         have hms65_3 := NB311_342.out
         have hs66 : w61.cell? ⟨gb311, 4, none⟩ = some (.bool false) := (blk_cell BK311.out 4).trans rfl
         have hfs66 := blk_frozen BK311.out 4
         have hns66_0 := NB310_311.out
         have hns66_2 := NB312_311.out
         have hns66_3 := NB342_311.out
         have hms66_0 := NB311_310.out
         have hms66_2 := NB311_312.out
         have hms66_3 := NB311_342.out
         have hs67 : w61.cell? ⟨gb311, 5, none⟩ = some (.string (⟨#[]⟩ : ByteArray)) := (blk_cell BK311.out 5).trans rfl
         have hfs67 := blk_frozen BK311.out 5
         have hns67_0 := NB310_311.out
         have hns67_2 := NB312_311.out
         have hns67_3 := NB342_311.out
         have hms67_0 := NB311_310.out
         have hms67_2 := NB311_312.out
         have hms67_3 := NB311_342.out
         refine skip_ (w1 := ?_) qgcr rfl ?_ ?_
         rotate_left
         ·go_simp
          rfl
         refine hK.out _ _ (by exact ⟨((cell_far (p := ⟨gb311, _, none⟩) NB342_311.out _).trans (((cell_far (p := ⟨gb311, _, none⟩) NB342_311.out _).trans (((cell_far (p := ⟨gb311, _, none⟩) NB342_311.out _).trans (((cell_far (p := ⟨gb311, _, none⟩) NB342_311.out _).trans (((cell_far (p := ⟨gb311, _, none⟩) NB342_311.out _).trans (((cell_far (p := ⟨gb311, _, none⟩) NB342_311.out _).trans (hHeld.1)))))))))))), ((cell_far (p := ⟨gb311, _, none⟩) NB342_311.out _).trans (((cell_far (p := ⟨gb311, _, none⟩) NB342_311.out _).trans (((cell_far (p := ⟨gb311, _, none⟩) NB342_311.out _).trans (((cell_far (p := ⟨gb311, _, none⟩) NB342_311.out _).trans (((cell_far (p := ⟨gb311, _, none⟩) NB342_311.out _).trans (((cell_far (p := ⟨gb311, _, none⟩) NB342_311.out _).trans (hHeld.2.1)))))))))))), ((cell_far (p := ⟨gb311, _, none⟩) NB342_311.out _).trans (((cell_far (p := ⟨gb311, _, none⟩) NB342_311.out _).trans (((cell_far (p := ⟨gb311, _, none⟩) NB342_311.out _).trans (((cell_far (p := ⟨gb311, _, none⟩) NB342_311.out _).trans (((cell_far (p := ⟨gb311, _, none⟩) NB342_311.out _).trans (((cell_far (p := ⟨gb311, _, none⟩) NB342_311.out _).trans (hHeld.2.2.1)))))))))))), ((cell_far (p := ⟨gb311, _, none⟩) NB342_311.out _).trans (((cell_far (p := ⟨gb311, _, none⟩) NB342_311.out _).trans (((cell_far (p := ⟨gb311, _, none⟩) NB342_311.out _).trans (((cell_far (p := ⟨gb311, _, none⟩) NB342_311.out _).trans (((cell_far (p := ⟨gb311, _, none⟩) NB342_311.out _).trans (((cell_far (p := ⟨gb311, _, none⟩) NB342_311.out _).trans (hHeld.2.2.2.1)))))))))))), ((cell_far (p := ⟨gb311, _, none⟩) NB342_311.out _).trans (((cell_far (p := ⟨gb311, _, none⟩) NB342_311.out _).trans (((cell_far (p := ⟨gb311, _, none⟩) NB342_311.out _).trans (((cell_far (p := ⟨gb311, _, none⟩) NB342_311.out _).trans (((cell_far (p := ⟨gb311, _, none⟩) NB342_311.out _).trans (((cell_far (p := ⟨gb311, _, none⟩) NB342_311.out _).trans (hHeld.2.2.2.2))))))))))))⟩) (fun hHeld => ?_)
         clear hK K
         refine one_ (i := 3) (N := none) #[true, true, true, true] rfl rfl qg3m qomw (fun K hK => ?_)
         have hs68 : w61.cell? ⟨gb312, 0, none⟩ = some (.int .i64 0) := (blk_cell BK312.out 0).trans rfl
         have hfs68 := blk_frozen BK312.out 0
         have hns68_0 := NB310_312.out
         have hns68_1 := NB311_312.out
         have hns68_3 := NB342_312.out
         have hms68_0 := NB312_310.out
         have hms68_1 := NB312_311.out
         have hms68_3 := NB312_342.out
         have hs69 : w61.cell? ⟨gb312, 1, none⟩ = some (.int .u64 0) := (blk_cell BK312.out 1).trans rfl
         have hfs69 := blk_frozen BK312.out 1
         have hns69_0 := NB310_312.out
         have hns69_1 := NB311_312.out
         have hns69_3 := NB342_312.out
         have hms69_0 := NB312_310.out
         have hms69_1 := NB312_311.out
         have hms69_3 := NB312_342.out
         have hs70 : w61.cell? ⟨gb312, 2, none⟩ = some (.int .u32 0) := (blk_cell BK312.out 2).trans rfl
         have hfs70 := blk_frozen BK312.out 2
         have hns70_0 := NB310_312.out
         have hns70_1 := NB311_312.out
         have hns70_3 := NB342_312.out
         have hms70_0 := NB312_310.out
         have hms70_1 := NB312_311.out
         have hms70_3 := NB312_342.out
         have hs71 : w61.cell? ⟨gb312, 3, none⟩ = some (.int .u64 0) := (blk_cell BK312.out 3).trans rfl
         have hfs71 := blk_frozen BK312.out 3
         have hns71_0 := NB310_312.out
         have hns71_1 := NB311_312.out
         have hns71_3 := NB342_312.out
         have hms71_0 := NB312_310.out
         have hms71_1 := NB312_311.out
         have hms71_3 := NB312_342.out
         have hs72 : w61.cell? ⟨gb312, 4, none⟩ = some (.int .u32 0) := (blk_cell BK312.out 4).trans rfl
         have hfs72 := blk_frozen BK312.out 4
         have hns72_0 := NB310_312.out
         have hns72_1 := NB311_312.out
         have hns72_3 := NB342_312.out
         have hms72_0 := NB312_310.out
         have hms72_1 := NB312_311.out
         have hms72_3 := NB312_342.out
         refine skip_ (w1 := ?_) qgcr rfl ?_ ?_
         rotate_left
         ·go_simp
          rfl
         refine hK.out _ _ (by exact ⟨((cell_far (p := ⟨gb312, _, none⟩) NB342_312.out _).trans (((cell_far (p := ⟨gb312, _, none⟩) NB342_312.out _).trans (((cell_far (p := ⟨gb312, _, none⟩) NB342_312.out _).trans (((cell_far (p := ⟨gb312, _, none⟩) NB342_312.out _).trans (((cell_far (p := ⟨gb312, _, none⟩) NB342_312.out _).trans (hHeld.1)))))))))), ((cell_far (p := ⟨gb312, _, none⟩) NB342_312.out _).trans (((cell_far (p := ⟨gb312, _, none⟩) NB342_312.out _).trans (((cell_far (p := ⟨gb312, _, none⟩) NB342_312.out _).trans (((cell_far (p := ⟨gb312, _, none⟩) NB342_312.out _).trans (((cell_far (p := ⟨gb312, _, none⟩) NB342_312.out _).trans (hHeld.2.1)))))))))), ((cell_far (p := ⟨gb312, _, none⟩) NB342_312.out _).trans (((cell_far (p := ⟨gb312, _, none⟩) NB342_312.out _).trans (((cell_far (p := ⟨gb312, _, none⟩) NB342_312.out _).trans (((cell_far (p := ⟨gb312, _, none⟩) NB342_312.out _).trans (((cell_far (p := ⟨gb312, _, none⟩) NB342_312.out _).trans (hHeld.2.2.1)))))))))), ((cell_far (p := ⟨gb312, _, none⟩) NB342_312.out _).trans (((cell_far (p := ⟨gb312, _, none⟩) NB342_312.out _).trans (((cell_far (p := ⟨gb312, _, none⟩) NB342_312.out _).trans (((cell_far (p := ⟨gb312, _, none⟩) NB342_312.out _).trans (((cell_far (p := ⟨gb312, _, none⟩) NB342_312.out _).trans (hHeld.2.2.2.1)))))))))), ((cell_far (p := ⟨gb312, _, none⟩) NB342_312.out _).trans (((cell_far (p := ⟨gb312, _, none⟩) NB342_312.out _).trans (((cell_far (p := ⟨gb312, _, none⟩) NB342_312.out _).trans (((cell_far (p := ⟨gb312, _, none⟩) NB342_312.out _).trans (((cell_far (p := ⟨gb312, _, none⟩) NB342_312.out _).trans (hHeld.2.2.2.2))))))))))⟩) (fun hHeld => ?_)
         clear hK K
         refine done_ qg3m ?_
         try go_wp2_with (first | ((with_reducible refine gate_st (ty := 29) rfl ?_); refine storeC8 rfl rfl rfl rfl rfl qlch qr2c qg3m rfl ?_) | ((with_reducible refine gate_ld (ty := 29) rfl ?_); (try (with_reducible refine gate_gd rfl ?_; refine gate_guard q8ju ?_; dsimp only)); refine load_st rfl rfl rfl qlch qr2c Tryd.underlying29 rfl qg3m ?_; (try simp only [Act.put, List.setIfInBounds_toArray, List.set_cons_zero, List.set_cons_succ])) | ((with_reducible refine gate_st (ty := 33) rfl ?_); refine storeC6 rfl rfl rfl rfl rfl qlch qr2c qg3m rfl ?_) | ((with_reducible refine gate_ld (ty := 33) rfl ?_); (try (with_reducible refine gate_gd rfl ?_; refine gate_guard q8ju ?_; dsimp only)); refine load_st rfl rfl rfl qlch qr2c Tryd.underlying33 rfl qg3m ?_; (try simp only [Act.put, List.setIfInBounds_toArray, List.set_cons_zero, List.set_cons_succ])) | ((with_reducible refine gate_st (ty := 35) rfl ?_); refine storeC5 rfl rfl rfl rfl rfl qlch qr2c qg3m rfl ?_) | ((with_reducible refine gate_ld (ty := 35) rfl ?_); (try (with_reducible refine gate_gd rfl ?_; refine gate_guard q8ju ?_; dsimp only)); refine load_st rfl rfl rfl qlch qr2c Tryd.underlying35 rfl qg3m ?_; (try simp only [Act.put, List.setIfInBounds_toArray, List.set_cons_zero, List.set_cons_succ])) | ((with_reducible refine gate_st (ty := 64) rfl ?_); refine storeC10 rfl rfl rfl rfl rfl qlch qr2c qg3m rfl ?_) | ((with_reducible refine gate_ld (ty := 64) rfl ?_); (try (with_reducible refine gate_gd rfl ?_; refine gate_guard q8ju ?_; dsimp only)); refine load_st rfl rfl rfl qlch qr2c Tryd.underlying64 rfl qg3m ?_; (try simp only [Act.put, List.setIfInBounds_toArray, List.set_cons_zero, List.set_cons_succ])) | go_in)
         refine bodyPost_ret (results_cc rfl _ _ gb311 gb312 33 35 #[.int .i64 1, .int .u32 0, .int .i64 0, .int .i64 0, .bool false, .string (⟨#[]⟩ : ByteArray)] #[.int .i64 t336, .int .u64 t337, .int .u32 t338, .int .u64 t339, .int .u32 t340] (0, 0) (0, 0) _ _ rfl qvqw Tryd.underlying33 rfl qg3m rfl q95j Tryd.underlying35 rfl qg3m) rfl ?_
         exact ⟨qxu5, qbek⟩
        ·replace c50 := Bool.eq_false_iff.mpr c50
         subst c50
         rw [if_neg (show ¬ (false = true) by decide)] at H
         replace H := Option.bind_eq_some_iff.mp H
         obtain ⟨⟨t343, t344, t345, t346, t347, t348, t349, t350, t351, t352, t353⟩, A730, H⟩ := H
         try dsimp only at H
         have A73 := Aside0.mk A730
         clear A730
         simp only [Option.some.injEq, Prod.mk.injEq] at H
         obtain ⟨rfl, rfl, rfl, rfl, rfl, rfl, rfl, rfl, rfl, rfl, rfl⟩ := H
         have hnb74 := NB310_311.out
         have hnc74 := NB311_310.out
         have hnb75 := NB310_312.out
         have hnc75 := NB312_310.out
         obtain ⟨hcz76_0, hcz76_1, hcz76_2, hcz76_3, hcz76_4, hcz76_5, hcz76_6, hcz76_7⟩ := cells8 BK310.out
         obtain ⟨hfz76_0, hfz76_1, hfz76_2, hfz76_3, hfz76_4, hfz76_5, hfz76_6, hfz76_7⟩ := frozen8 BK310.out
         go_wp2_with (first | ((with_reducible refine gate_st (ty := 29) rfl ?_); refine storeC8 rfl rfl rfl rfl rfl qlch qr2c qg3m rfl ?_) | ((with_reducible refine gate_ld (ty := 29) rfl ?_); (try (with_reducible refine gate_gd rfl ?_; refine gate_guard q8ju ?_; dsimp only)); refine load_st rfl rfl rfl qlch qr2c Tryd.underlying29 rfl qg3m ?_; (try simp only [Act.put, List.setIfInBounds_toArray, List.set_cons_zero, List.set_cons_succ])) | ((with_reducible refine gate_st (ty := 33) rfl ?_); refine storeC6 rfl rfl rfl rfl rfl qlch qr2c qg3m rfl ?_) | ((with_reducible refine gate_ld (ty := 33) rfl ?_); (try (with_reducible refine gate_gd rfl ?_; refine gate_guard q8ju ?_; dsimp only)); refine load_st rfl rfl rfl qlch qr2c Tryd.underlying33 rfl qg3m ?_; (try simp only [Act.put, List.setIfInBounds_toArray, List.set_cons_zero, List.set_cons_succ])) | ((with_reducible refine gate_st (ty := 35) rfl ?_); refine storeC5 rfl rfl rfl rfl rfl qlch qr2c qg3m rfl ?_) | ((with_reducible refine gate_ld (ty := 35) rfl ?_); (try (with_reducible refine gate_gd rfl ?_; refine gate_guard q8ju ?_; dsimp only)); refine load_st rfl rfl rfl qlch qr2c Tryd.underlying35 rfl qg3m ?_; (try simp only [Act.put, List.setIfInBounds_toArray, List.set_cons_zero, List.set_cons_succ])) | ((with_reducible refine gate_st (ty := 64) rfl ?_); refine storeC10 rfl rfl rfl rfl rfl qlch qr2c qg3m rfl ?_) | ((with_reducible refine gate_ld (ty := 64) rfl ?_); (try (with_reducible refine gate_gd rfl ?_; refine gate_guard q8ju ?_; dsimp only)); refine load_st rfl rfl rfl qlch qr2c Tryd.underlying64 rfl qg3m ?_; (try simp only [Act.put, List.setIfInBounds_toArray, List.set_cons_zero, List.set_cons_succ])) | ((with_reducible refine gate_callee (f := 19) rfl ?_); refine goesL_ (some 53) rfl rfl Tryd.func19 qg3m rfl #[.agg #[.int .u64 a2_0, .int .u64 a2_1, .bool a2_2, .int .i64 a2_3, .bool a2_4, .int .i64 a2_5, .int .i64 a2_6, .string a2_7]] rfl qraq ?_; (with_reducible refine (gangwayref05_Of.calls kj22 a2_0 a2_1 a2_2 a2_3 a2_4 a2_5 a2_6 a2_7 t336 t337 t338 t339 t340 false _ A49.out).mono ?_); rintro e w77 ⟨rfl, hb⟩; refine ⟨_, rfl, ?_⟩; replace BK310 := Aside0.mk (blk_below (g := gb310) qufl hb); replace BK311 := Aside0.mk (blk_below (g := gb311) qubq hb); replace BK312 := Aside0.mk (blk_below (g := gb312) qkhg hb); replace HB := Aside0.mk (below_step q48w hb); obtain ⟨hcy1_310_0, hcy1_310_1, hcy1_310_2, hcy1_310_3, hcy1_310_4, hcy1_310_5, hcy1_310_6, hcy1_310_7⟩ := cells8 BK310.out; (try clear hb); (try clear hb2); (try clear hk); (try clear hi)) | ((with_reducible refine gate_dst (N := 8) rfl ?_); refine box_event qgcr (N := 8) qgcr (cs := #[.int .i64 0, .int .u64 0, .int .u32 0, .int .u64 0, .int .u32 0]) (t := 35) qlto ?_; intro gb342 hg w78 hbox hb; have BK342 := Aside0.mk (hbox); have GE342 := Aside0.mk ((by rw [hg]; exact (below_size q48w) : w.heap.size ≤ gb342)); have NB310_342 := Aside0.mk ((q0xp : gb310 ≠ gb342)); have NB342_310 := Aside0.mk ((q649 : gb342 ≠ gb310)); have NB311_342 := Aside0.mk ((q0x3 : gb311 ≠ gb342)); have NB342_311 := Aside0.mk ((q2cb : gb342 ≠ gb311)); have NB312_342 := Aside0.mk ((qxy7 : gb312 ≠ gb342)); have NB342_312 := Aside0.mk ((qwky : gb342 ≠ gb312)); replace BK310 := Aside0.mk (blk_below (g := gb310) qufl hb); replace BK311 := Aside0.mk (blk_below (g := gb311) qubq hb); replace BK312 := Aside0.mk (blk_below (g := gb312) qkhg hb); replace HB := Aside0.mk (below_step q48w hb); obtain ⟨hcy2_310_0, hcy2_310_1, hcy2_310_2, hcy2_310_3, hcy2_310_4, hcy2_310_5, hcy2_310_6, hcy2_310_7⟩ := cells8 BK310.out; clear hb hbox hg; have hnb79 := NB342_310.out; have hnc79 := NB310_342.out; have hnb80 := NB342_311.out; have hnc80 := NB311_342.out; have hnb81 := NB342_312.out; have hnc81 := NB312_342.out; obtain ⟨hcz82_0, hcz82_1, hcz82_2, hcz82_3, hcz82_4⟩ := cells5 BK342.out; obtain ⟨hfz82_0, hfz82_1, hfz82_2, hfz82_3, hfz82_4⟩ := frozen5 BK342.out) | ((with_reducible refine gate_callee (f := 17) rfl ?_); refine goesL_ (some 58) rfl rfl Tryd.func17 qg3m rfl #[.int .i64 3] rfl qraq ?_; (with_reducible refine (gangwayref20_why.calls 3 t343 t344 t345 t346 t347 t348 t349 t350 t351 t352 t353 _ A73.out).mono ?_); rintro e w83 ⟨rfl, hb⟩; refine ⟨_, rfl, ?_⟩; replace BK310 := Aside0.mk (blk_below (g := gb310) (o := .cells #[.int .u64 a2_0, .int .u64 a2_1, .bool a2_2, .int .i64 a2_3, .bool a2_4, .int .i64 a2_5, .int .i64 a2_6, .string a2_7] 29 (0, 0)) q4h6 hb); replace BK311 := Aside0.mk (blk_below (g := gb311) (o := .cells #[.int .i64 0, .int .u32 0, .int .i64 0, .int .i64 0, .bool false, .string (⟨#[]⟩ : ByteArray)] 33 (0, 0)) q9p0 hb); replace BK312 := Aside0.mk (blk_below (g := gb312) (o := .cells #[.int .i64 0, .int .u64 0, .int .u32 0, .int .u64 0, .int .u32 0] 35 (0, 0)) q4gu hb); replace BK342 := Aside0.mk (blk_below (g := gb342) (o := .cells #[.int .i64 t336, .int .u64 t337, .int .u32 t338, .int .u64 t339, .int .u32 t340] 35 (0, 0)) (by (with_reducible repeat (first | refine blk_drewN ?_ _ | refine blk_drew ?_ | refine blk_alloc ?_ _)); exact (put5_0_5 qu4m)) hb); replace HB := Aside0.mk (below_step qbek hb); obtain ⟨hcy3_310_0, hcy3_310_1, hcy3_310_2, hcy3_310_3, hcy3_310_4, hcy3_310_5, hcy3_310_6, hcy3_310_7⟩ := cells8 BK310.out; (try clear hb); (try clear hb2); (try clear hk); (try clear hi); have hnb84 := NB311_312.out; have hnc84 := NB312_311.out; obtain ⟨hcz85_0, hcz85_1, hcz85_2, hcz85_3, hcz85_4, hcz85_5⟩ := cells6 BK311.out; obtain ⟨hfz85_0, hfz85_1, hfz85_2, hfz85_3, hfz85_4, hfz85_5⟩ := frozen6 BK311.out; obtain ⟨hcz86_0, hcz86_1, hcz86_2, hcz86_3, hcz86_4⟩ := cells5 BK312.out; obtain ⟨hfz86_0, hfz86_1, hfz86_2, hfz86_3, hfz86_4⟩ := frozen5 BK312.out))
         refine bodyPost_ret (results_cc rfl _ _ gb311 gb312 33 35 #[.int .i64 t343, .int .u32 t344, .int .i64 t345, .int .i64 t346, .bool t347, .string t348] #[.int .i64 t349, .int .u64 t350, .int .u32 t351, .int .u64 t352, .int .u32 t353] (0, 0) (0, 0) _ _ rfl qvqw Tryd.underlying33 rfl qg3m rfl q95j Tryd.underlying35 rfl qg3m) rfl ?_
         exact ⟨qxu5, qbek⟩
       ·rw [if_neg c48] at H
        have c48b0 : (a2_6 == 2054) = false := beq_eq_false_iff_ne.mpr c48
        have c48b1 : (a2_6 != 2054) = true := bne_iff_ne.mpr c48
        replace H := Option.bind_eq_some_iff.mp H
        obtain ⟨⟨t354, t355, t356, t357, t358, t359, t360, t361, t362, t363, t364⟩, A870, H⟩ := H
        try dsimp only at H
        have A87 := Aside0.mk A870
        clear A870
        have HC88 := Aside0.mk H
        clear H
        have hnb89 := NB310_311.out
        have hnc89 := NB311_310.out
        have hnb90 := NB310_312.out
        have hnc90 := NB312_310.out
        obtain ⟨hcz91_0, hcz91_1, hcz91_2, hcz91_3, hcz91_4, hcz91_5, hcz91_6, hcz91_7⟩ := cells8 BK310.out
        obtain ⟨hfz91_0, hfz91_1, hfz91_2, hfz91_3, hfz91_4, hfz91_5, hfz91_6, hfz91_7⟩ := frozen8 BK310.out
        go_upto_region 11 with (first | ((with_reducible refine gate_st (ty := 29) rfl ?_); refine storeC8 rfl rfl rfl rfl rfl qlch qr2c qg3m rfl ?_) | ((with_reducible refine gate_ld (ty := 29) rfl ?_); (try (with_reducible refine gate_gd rfl ?_; refine gate_guard q8ju ?_; dsimp only)); refine load_st rfl rfl rfl qlch qr2c Tryd.underlying29 rfl qg3m ?_; (try simp only [Act.put, List.setIfInBounds_toArray, List.set_cons_zero, List.set_cons_succ])) | ((with_reducible refine gate_st (ty := 33) rfl ?_); refine storeC6 rfl rfl rfl rfl rfl qlch qr2c qg3m rfl ?_) | ((with_reducible refine gate_ld (ty := 33) rfl ?_); (try (with_reducible refine gate_gd rfl ?_; refine gate_guard q8ju ?_; dsimp only)); refine load_st rfl rfl rfl qlch qr2c Tryd.underlying33 rfl qg3m ?_; (try simp only [Act.put, List.setIfInBounds_toArray, List.set_cons_zero, List.set_cons_succ])) | ((with_reducible refine gate_st (ty := 35) rfl ?_); refine storeC5 rfl rfl rfl rfl rfl qlch qr2c qg3m rfl ?_) | ((with_reducible refine gate_ld (ty := 35) rfl ?_); (try (with_reducible refine gate_gd rfl ?_; refine gate_guard q8ju ?_; dsimp only)); refine load_st rfl rfl rfl qlch qr2c Tryd.underlying35 rfl qg3m ?_; (try simp only [Act.put, List.setIfInBounds_toArray, List.set_cons_zero, List.set_cons_succ])) | ((with_reducible refine gate_st (ty := 64) rfl ?_); refine storeC10 rfl rfl rfl rfl rfl qlch qr2c qg3m rfl ?_) | ((with_reducible refine gate_ld (ty := 64) rfl ?_); (try (with_reducible refine gate_gd rfl ?_; refine gate_guard q8ju ?_; dsimp only)); refine load_st rfl rfl rfl qlch qr2c Tryd.underlying64 rfl qg3m ?_; (try simp only [Act.put, List.setIfInBounds_toArray, List.set_cons_zero, List.set_cons_succ])) | ((with_reducible refine gate_callee (f := 20) rfl ?_); refine goesL_ (some 66) rfl rfl Tryd.func20 qg3m rfl #[.string a2_7] rfl qraq ?_; (with_reducible refine (gangwayref06_Parse.calls kj22 a2_7 t354 t355 t356 t357 t358 t359 t360 t361 t362 t363 t364 _ A87.out).mono ?_); rintro e w92 ⟨rfl, hb⟩; refine ⟨_, rfl, ?_⟩; replace BK310 := Aside0.mk (blk_below (g := gb310) qufl hb); replace BK311 := Aside0.mk (blk_below (g := gb311) qubq hb); replace BK312 := Aside0.mk (blk_below (g := gb312) qkhg hb); replace HB := Aside0.mk (below_step q48w hb); (try clear hb); (try clear hb2); (try clear hk); (try clear hi)) | ((with_reducible refine gate_dst (N := 10) rfl ?_); refine box_event qgcr (N := 10) qgcr (cs := #[.int .i64 0, .int .i64 0, .bool false, .bool false, .int .i64 0, .int .i64 0, .int .i64 0, .int .u32 0, .int .u32 0, .string (⟨#[]⟩ : ByteArray)]) (t := 64) qlto ?_; intro gb365 hg w93 hbox hb; have BK365 := Aside0.mk (hbox); have GE365 := Aside0.mk ((by rw [hg]; exact (below_size q48w) : w.heap.size ≤ gb365)); have NB310_365 := Aside0.mk ((q0xp : gb310 ≠ gb365)); have NB365_310 := Aside0.mk ((q649 : gb365 ≠ gb310)); have NB311_365 := Aside0.mk ((q0x3 : gb311 ≠ gb365)); have NB365_311 := Aside0.mk ((q2cb : gb365 ≠ gb311)); have NB312_365 := Aside0.mk ((qxy7 : gb312 ≠ gb365)); have NB365_312 := Aside0.mk ((qwky : gb365 ≠ gb312)); replace BK310 := Aside0.mk (blk_below (g := gb310) qufl hb); replace BK311 := Aside0.mk (blk_below (g := gb311) qubq hb); replace BK312 := Aside0.mk (blk_below (g := gb312) qkhg hb); replace HB := Aside0.mk (below_step q48w hb); clear hb hbox hg; have hnb94 := NB365_310.out; have hnc94 := NB310_365.out; have hnb95 := NB365_311.out; have hnc95 := NB311_365.out; have hnb96 := NB365_312.out; have hnc96 := NB312_365.out; obtain ⟨hcz97_0, hcz97_1, hcz97_2, hcz97_3, hcz97_4, hcz97_5, hcz97_6, hcz97_7, hcz97_8, hcz97_9⟩ := cells10 BK365.out; obtain ⟨hfz97_0, hfz97_1, hfz97_2, hfz97_3, hfz97_4, hfz97_5, hfz97_6, hfz97_7, hfz97_8, hfz97_9⟩ := frozen10 BK365.out))
        (try simp only [Act.put, List.setIfInBounds_toArray, List.set_cons_zero, List.set_cons_succ])
        go_cut [75] (fun v75 wc => ∃ (kq : Nat) (x75_87 : Bool), v75 = .bool x75_87 ∧ Aside0 (gangwayref20_Take.j2 kq a1 x75_87 t354 t355 t356 t357 t358 t359 t360 t361 t362 t363 = some (r1, r2, r3, r4, r5, r6, r7, r8, r9, r10, r11)) ∧ Aside0 (kq ≤ kj22) ∧ Aside0 (wc.heap[gb310]? = some (.cells #[.int .u64 a2_0, .int .u64 a2_1, .bool a2_2, .int .i64 a2_3, .bool a2_4, .int .i64 a2_5, .int .i64 a2_6, .string a2_7] 29 (0, 0))) ∧ Aside0 (wc.heap[gb311]? = some (.cells #[.int .i64 0, .int .u32 0, .int .i64 0, .int .i64 0, .bool false, .string (⟨#[]⟩ : ByteArray)] 33 (0, 0))) ∧ Aside0 (wc.heap[gb312]? = some (.cells #[.int .i64 0, .int .u64 0, .int .u32 0, .int .u64 0, .int .u32 0] 35 (0, 0))) ∧ Aside0 (wc.heap[gb365]? = some (.cells #[.int .i64 t354, .int .i64 t355, .bool t356, .bool t357, .int .i64 t358, .int .i64 t359, .int .i64 t360, .int .u32 t361, .int .u32 t362, .string t363] 64 (0, 0))) ∧ Aside0 (Below w.heap.size w wc))
        case first =>
         have H := HC88.out
         clear HC88
         by_cases c98 : t364 = 0
         ·rw [if_pos c98] at H
          have c98b0 : (t364 == 0) = true := beq_iff_eq.mpr c98
          have c98b1 : (t364 != 0) = false := bne_eq_false_iff_eq.mpr c98
          clear c98
          (first | rw [c98b0] | (simp only [i64_w, i32_w]; rw [c98b0]) | skip)
          have H' := Aside0.mk H
          clear H
          have hnb99 := NB365_310.out
          have hnc99 := NB310_365.out
          have hnb100 := NB365_311.out
          have hnc100 := NB311_365.out
          have hnb101 := NB365_312.out
          have hnc101 := NB312_365.out
          obtain ⟨hcz102_0, hcz102_1, hcz102_2, hcz102_3, hcz102_4, hcz102_5, hcz102_6, hcz102_7, hcz102_8, hcz102_9⟩ := cells10 BK365.out
          obtain ⟨hfz102_0, hfz102_1, hfz102_2, hfz102_3, hfz102_4, hfz102_5, hfz102_6, hfz102_7, hfz102_8, hfz102_9⟩ := frozen10 BK365.out
          go_wp2_with (first | ((with_reducible refine gate_st (ty := 29) rfl ?_); refine storeC8 rfl rfl rfl rfl rfl qlch qr2c qg3m rfl ?_) | ((with_reducible refine gate_ld (ty := 29) rfl ?_); (try (with_reducible refine gate_gd rfl ?_; refine gate_guard q8ju ?_; dsimp only)); refine load_st rfl rfl rfl qlch qr2c Tryd.underlying29 rfl qg3m ?_; (try simp only [Act.put, List.setIfInBounds_toArray, List.set_cons_zero, List.set_cons_succ])) | ((with_reducible refine gate_st (ty := 33) rfl ?_); refine storeC6 rfl rfl rfl rfl rfl qlch qr2c qg3m rfl ?_) | ((with_reducible refine gate_ld (ty := 33) rfl ?_); (try (with_reducible refine gate_gd rfl ?_; refine gate_guard q8ju ?_; dsimp only)); refine load_st rfl rfl rfl qlch qr2c Tryd.underlying33 rfl qg3m ?_; (try simp only [Act.put, List.setIfInBounds_toArray, List.set_cons_zero, List.set_cons_succ])) | ((with_reducible refine gate_st (ty := 35) rfl ?_); refine storeC5 rfl rfl rfl rfl rfl qlch qr2c qg3m rfl ?_) | ((with_reducible refine gate_ld (ty := 35) rfl ?_); (try (with_reducible refine gate_gd rfl ?_; refine gate_guard q8ju ?_; dsimp only)); refine load_st rfl rfl rfl qlch qr2c Tryd.underlying35 rfl qg3m ?_; (try simp only [Act.put, List.setIfInBounds_toArray, List.set_cons_zero, List.set_cons_succ])) | ((with_reducible refine gate_st (ty := 64) rfl ?_); refine storeC10 rfl rfl rfl rfl rfl qlch qr2c qg3m rfl ?_) | ((with_reducible refine gate_ld (ty := 64) rfl ?_); (try (with_reducible refine gate_gd rfl ?_; refine gate_guard q8ju ?_; dsimp only)); refine load_st rfl rfl rfl qlch qr2c Tryd.underlying64 rfl qg3m ?_; (try simp only [Act.put, List.setIfInBounds_toArray, List.set_cons_zero, List.set_cons_succ])) | go_in)
          go_meet
          case rel => exact ⟨_, ((t359 == 0)), q8z4, H', ⟨(by have := HJ3.out; have := HJ22.out; first | omega | exact Nat.le_refl _)⟩, ⟨qd3c⟩, ⟨qbc4⟩, ⟨qwe1⟩, ⟨q6od⟩, ⟨qoki⟩⟩
         ·rw [if_neg c98] at H
          have c98b0 : (t364 == 0) = false := beq_eq_false_iff_ne.mpr c98
          have c98b1 : (t364 != 0) = true := bne_iff_ne.mpr c98
          (first | rw [c98b0] | (simp only [i64_w, i32_w]; rw [c98b0]) | skip)
          have H' := Aside0.mk H
          clear H
          go_wp2_with (first | ((with_reducible refine gate_st (ty := 29) rfl ?_); refine storeC8 rfl rfl rfl rfl rfl qlch qr2c qg3m rfl ?_) | ((with_reducible refine gate_ld (ty := 29) rfl ?_); (try (with_reducible refine gate_gd rfl ?_; refine gate_guard q8ju ?_; dsimp only)); refine load_st rfl rfl rfl qlch qr2c Tryd.underlying29 rfl qg3m ?_; (try simp only [Act.put, List.setIfInBounds_toArray, List.set_cons_zero, List.set_cons_succ])) | ((with_reducible refine gate_st (ty := 33) rfl ?_); refine storeC6 rfl rfl rfl rfl rfl qlch qr2c qg3m rfl ?_) | ((with_reducible refine gate_ld (ty := 33) rfl ?_); (try (with_reducible refine gate_gd rfl ?_; refine gate_guard q8ju ?_; dsimp only)); refine load_st rfl rfl rfl qlch qr2c Tryd.underlying33 rfl qg3m ?_; (try simp only [Act.put, List.setIfInBounds_toArray, List.set_cons_zero, List.set_cons_succ])) | ((with_reducible refine gate_st (ty := 35) rfl ?_); refine storeC5 rfl rfl rfl rfl rfl qlch qr2c qg3m rfl ?_) | ((with_reducible refine gate_ld (ty := 35) rfl ?_); (try (with_reducible refine gate_gd rfl ?_; refine gate_guard q8ju ?_; dsimp only)); refine load_st rfl rfl rfl qlch qr2c Tryd.underlying35 rfl qg3m ?_; (try simp only [Act.put, List.setIfInBounds_toArray, List.set_cons_zero, List.set_cons_succ])) | ((with_reducible refine gate_st (ty := 64) rfl ?_); refine storeC10 rfl rfl rfl rfl rfl qlch qr2c qg3m rfl ?_) | ((with_reducible refine gate_ld (ty := 64) rfl ?_); (try (with_reducible refine gate_gd rfl ?_; refine gate_guard q8ju ?_; dsimp only)); refine load_st rfl rfl rfl qlch qr2c Tryd.underlying64 rfl qg3m ?_; (try simp only [Act.put, List.setIfInBounds_toArray, List.set_cons_zero, List.set_cons_succ])) | go_in)
          go_meet
          case rel => exact ⟨_, (true), q8z4, H', ⟨(by have := HJ3.out; have := HJ22.out; first | omega | exact Nat.le_refl _)⟩, ⟨qd3c⟩, ⟨qbc4⟩, ⟨qwe1⟩, ⟨q6od⟩, ⟨qoki⟩⟩
        case rest =>
         clear HC88
         try clear c1
         try clear c2
         try clear p2
         try clear c3
         try clear c4
         try clear c5
         try clear c7
         try clear c8
         try clear c8b0
         try clear c8b1
         try clear c9
         try clear c10
         try clear c12
         try clear c13
         try clear c15
         try clear c17
         try clear c18
         try clear c19
         try clear c20
         try clear c21
         try clear c24
         try clear c25
         try clear c26
         try clear c29
         try clear c30
         try clear c30b0
         try clear c30b1
         try clear c31
         try clear c32
         try clear c34
         try clear c35
         try clear c37
         try clear c38
         try clear c40
         try clear c43
         try clear c44
         try clear c46
         try clear c48
         try clear c48b0
         try clear c48b1
         try clear c50
         try clear c51
         try clear c52
         try clear c56
         try clear c57
         try clear c58
         try clear c74
         try clear c75
         try clear c79
         try clear c80
         try clear c81
         try clear c84
         try clear c89
         try clear c90
         try clear c94
         try clear c95
         try clear c96
         try clear c98
         try clear c98b0
         try clear c98b1
         try clear c99
         try clear c100
         try clear c101
         try clear p2
         obtain ⟨kq, x75_87, rfl, HA, HJ87, BK310, BK311, BK312, BK365, HB⟩ := hcut
         cases kq with
         | zero => exact absurd HA.out (by simp [gangwayref20_Take.j2])
         | succ kj87 =>
          have H := HA.out
          clear HA
          simp only [gangwayref20_Take.j2] at H
          by_cases c103 : x75_87 = true
          ·subst c103
           rw [if_pos rfl] at H
           replace H := Option.bind_eq_some_iff.mp H
           obtain ⟨⟨t366, t367, t368, t369, t370, t371, t372, t373, t374, t375, t376⟩, A1040, H⟩ := H
           try dsimp only at H
           have A104 := Aside0.mk A1040
           clear A1040
           simp only [Option.some.injEq, Prod.mk.injEq] at H
           obtain ⟨rfl, rfl, rfl, rfl, rfl, rfl, rfl, rfl, rfl, rfl, rfl⟩ := H
           go_wp2_with (first | ((with_reducible refine gate_st (ty := 29) rfl ?_); refine storeC8 rfl rfl rfl rfl rfl qlch qr2c qg3m rfl ?_) | ((with_reducible refine gate_ld (ty := 29) rfl ?_); (try (with_reducible refine gate_gd rfl ?_; refine gate_guard q8ju ?_; dsimp only)); refine load_st rfl rfl rfl qlch qr2c Tryd.underlying29 rfl qg3m ?_; (try simp only [Act.put, List.setIfInBounds_toArray, List.set_cons_zero, List.set_cons_succ])) | ((with_reducible refine gate_st (ty := 33) rfl ?_); refine storeC6 rfl rfl rfl rfl rfl qlch qr2c qg3m rfl ?_) | ((with_reducible refine gate_ld (ty := 33) rfl ?_); (try (with_reducible refine gate_gd rfl ?_; refine gate_guard q8ju ?_; dsimp only)); refine load_st rfl rfl rfl qlch qr2c Tryd.underlying33 rfl qg3m ?_; (try simp only [Act.put, List.setIfInBounds_toArray, List.set_cons_zero, List.set_cons_succ])) | ((with_reducible refine gate_st (ty := 35) rfl ?_); refine storeC5 rfl rfl rfl rfl rfl qlch qr2c qg3m rfl ?_) | ((with_reducible refine gate_ld (ty := 35) rfl ?_); (try (with_reducible refine gate_gd rfl ?_; refine gate_guard q8ju ?_; dsimp only)); refine load_st rfl rfl rfl qlch qr2c Tryd.underlying35 rfl qg3m ?_; (try simp only [Act.put, List.setIfInBounds_toArray, List.set_cons_zero, List.set_cons_succ])) | ((with_reducible refine gate_st (ty := 64) rfl ?_); refine storeC10 rfl rfl rfl rfl rfl qlch qr2c qg3m rfl ?_) | ((with_reducible refine gate_ld (ty := 64) rfl ?_); (try (with_reducible refine gate_gd rfl ?_; refine gate_guard q8ju ?_; dsimp only)); refine load_st rfl rfl rfl qlch qr2c Tryd.underlying64 rfl qg3m ?_; (try simp only [Act.put, List.setIfInBounds_toArray, List.set_cons_zero, List.set_cons_succ])) | ((with_reducible refine gate_callee (f := 17) rfl ?_); refine goesL_ (some 76) rfl rfl Tryd.func17 qg3m rfl #[.int .i64 4] rfl qraq ?_; (with_reducible refine (gangwayref20_why.calls 4 t366 t367 t368 t369 t370 t371 t372 t373 t374 t375 t376 _ A104.out).mono ?_); rintro e w105 ⟨rfl, hb⟩; refine ⟨_, rfl, ?_⟩; replace BK310 := Aside0.mk (blk_below (g := gb310) qufl hb); replace BK311 := Aside0.mk (blk_below (g := gb311) qubq hb); replace BK312 := Aside0.mk (blk_below (g := gb312) qkhg hb); replace BK365 := Aside0.mk (blk_below (g := gb365) q5f1 hb); replace HB := Aside0.mk (below_step qoki hb); obtain ⟨hcy1_310_0, hcy1_310_1, hcy1_310_2, hcy1_310_3, hcy1_310_4, hcy1_310_5, hcy1_310_6, hcy1_310_7⟩ := cells8 BK310.out; (try clear hb); (try clear hb2); (try clear hk); (try clear hi); have hnb106 := NB311_310.out; have hnc106 := NB310_311.out; have hnb107 := NB311_312.out; have hnc107 := NB312_311.out; have hnb108 := NB311_365.out; have hnc108 := NB365_311.out; obtain ⟨hcz109_0, hcz109_1, hcz109_2, hcz109_3, hcz109_4, hcz109_5⟩ := cells6 BK311.out; obtain ⟨hfz109_0, hfz109_1, hfz109_2, hfz109_3, hfz109_4, hfz109_5⟩ := frozen6 BK311.out; have hnb110 := NB312_310.out; have hnc110 := NB310_312.out; have hnb111 := NB312_365.out; have hnc111 := NB365_312.out; obtain ⟨hcz112_0, hcz112_1, hcz112_2, hcz112_3, hcz112_4⟩ := cells5 BK312.out; obtain ⟨hfz112_0, hfz112_1, hfz112_2, hfz112_3, hfz112_4⟩ := frozen5 BK312.out))
           refine bodyPost_ret (results_cc rfl _ _ gb311 gb312 33 35 #[.int .i64 t366, .int .u32 t367, .int .i64 t368, .int .i64 t369, .bool t370, .string t371] #[.int .i64 t372, .int .u64 t373, .int .u32 t374, .int .u64 t375, .int .u32 t376] (0, 0) (0, 0) _ _ rfl qvqw Tryd.underlying33 rfl qg3m rfl q95j Tryd.underlying35 rfl qg3m) rfl ?_
           exact ⟨qxu5, qoki⟩
          ·replace c103 := Bool.eq_false_iff.mpr c103
           subst c103
           rw [if_neg (show ¬ (false = true) by decide)] at H
           by_cases c113 : t362 = a1
           ·rw [if_pos c113] at H
            have c113b0 : (t362 == a1) = true := beq_iff_eq.mpr c113
            have c113b1 : (t362 != a1) = false := bne_eq_false_iff_eq.mpr c113
            clear c113
            have HC114 := Aside0.mk H
            clear H
            have hnb115 := NB365_310.out
            have hnc115 := NB310_365.out
            have hnb116 := NB365_311.out
            have hnc116 := NB311_365.out
            have hnb117 := NB365_312.out
            have hnc117 := NB312_365.out
            obtain ⟨hcz118_0, hcz118_1, hcz118_2, hcz118_3, hcz118_4, hcz118_5, hcz118_6, hcz118_7, hcz118_8, hcz118_9⟩ := cells10 BK365.out
            obtain ⟨hfz118_0, hfz118_1, hfz118_2, hfz118_3, hfz118_4, hfz118_5, hfz118_6, hfz118_7, hfz118_8, hfz118_9⟩ := frozen10 BK365.out
            go_upto_region 15 with (fail)
            go_cut [92] (fun v92 wc => ∃ (kq : Nat) (x92_113 : Bool), v92 = .bool x92_113 ∧ Aside0 (gangwayref20_Take.j3 kq x92_113 t354 t355 t356 t357 t358 t359 t360 t361 t362 t363 = some (r1, r2, r3, r4, r5, r6, r7, r8, r9, r10, r11)) ∧ Aside0 (kq ≤ kj87) ∧ Aside0 (wc.heap[gb310]? = some (.cells #[.int .u64 a2_0, .int .u64 a2_1, .bool a2_2, .int .i64 a2_3, .bool a2_4, .int .i64 a2_5, .int .i64 a2_6, .string a2_7] 29 (0, 0))) ∧ Aside0 (wc.heap[gb311]? = some (.cells #[.int .i64 0, .int .u32 0, .int .i64 0, .int .i64 0, .bool false, .string (⟨#[]⟩ : ByteArray)] 33 (0, 0))) ∧ Aside0 (wc.heap[gb312]? = some (.cells #[.int .i64 0, .int .u64 0, .int .u32 0, .int .u64 0, .int .u32 0] 35 (0, 0))) ∧ Aside0 (wc.heap[gb365]? = some (.cells #[.int .i64 t354, .int .i64 t355, .bool t356, .bool t357, .int .i64 t358, .int .i64 t359, .int .i64 t360, .int .u32 t361, .int .u32 t362, .string t363] 64 (0, 0))) ∧ Aside0 (Below w.heap.size w wc))
            case first =>
             have H := HC114.out
             clear HC114
             by_cases c119 : t357 = true
             ·subst c119
              rw [if_pos rfl] at H
              have H' := Aside0.mk H
              clear H
              have hnb120 := NB365_310.out
              have hnc120 := NB310_365.out
              have hnb121 := NB365_311.out
              have hnc121 := NB311_365.out
              have hnb122 := NB365_312.out
              have hnc122 := NB312_365.out
              obtain ⟨hcz123_0, hcz123_1, hcz123_2, hcz123_3, hcz123_4, hcz123_5, hcz123_6, hcz123_7, hcz123_8, hcz123_9⟩ := cells10 BK365.out
              obtain ⟨hfz123_0, hfz123_1, hfz123_2, hfz123_3, hfz123_4, hfz123_5, hfz123_6, hfz123_7, hfz123_8, hfz123_9⟩ := frozen10 BK365.out
              go_wp2_with (first | ((with_reducible refine gate_st (ty := 29) rfl ?_); refine storeC8 rfl rfl rfl rfl rfl qlch qr2c qg3m rfl ?_) | ((with_reducible refine gate_ld (ty := 29) rfl ?_); (try (with_reducible refine gate_gd rfl ?_; refine gate_guard q8ju ?_; dsimp only)); refine load_st rfl rfl rfl qlch qr2c Tryd.underlying29 rfl qg3m ?_; (try simp only [Act.put, List.setIfInBounds_toArray, List.set_cons_zero, List.set_cons_succ])) | ((with_reducible refine gate_st (ty := 33) rfl ?_); refine storeC6 rfl rfl rfl rfl rfl qlch qr2c qg3m rfl ?_) | ((with_reducible refine gate_ld (ty := 33) rfl ?_); (try (with_reducible refine gate_gd rfl ?_; refine gate_guard q8ju ?_; dsimp only)); refine load_st rfl rfl rfl qlch qr2c Tryd.underlying33 rfl qg3m ?_; (try simp only [Act.put, List.setIfInBounds_toArray, List.set_cons_zero, List.set_cons_succ])) | ((with_reducible refine gate_st (ty := 35) rfl ?_); refine storeC5 rfl rfl rfl rfl rfl qlch qr2c qg3m rfl ?_) | ((with_reducible refine gate_ld (ty := 35) rfl ?_); (try (with_reducible refine gate_gd rfl ?_; refine gate_guard q8ju ?_; dsimp only)); refine load_st rfl rfl rfl qlch qr2c Tryd.underlying35 rfl qg3m ?_; (try simp only [Act.put, List.setIfInBounds_toArray, List.set_cons_zero, List.set_cons_succ])) | ((with_reducible refine gate_st (ty := 64) rfl ?_); refine storeC10 rfl rfl rfl rfl rfl qlch qr2c qg3m rfl ?_) | ((with_reducible refine gate_ld (ty := 64) rfl ?_); (try (with_reducible refine gate_gd rfl ?_; refine gate_guard q8ju ?_; dsimp only)); refine load_st rfl rfl rfl qlch qr2c Tryd.underlying64 rfl qg3m ?_; (try simp only [Act.put, List.setIfInBounds_toArray, List.set_cons_zero, List.set_cons_succ])) | go_in)
              go_meet
              case rel => exact ⟨_, (true), q8z4, H', ⟨(by have := HJ3.out; have := HJ22.out; have := HJ87.out; first | omega | exact Nat.le_refl _)⟩, ⟨qufl⟩, ⟨qubq⟩, ⟨qkhg⟩, ⟨q5f1⟩, ⟨qoki⟩⟩
             ·replace c119 := Bool.eq_false_iff.mpr c119
              subst c119
              rw [if_neg (show ¬ (false = true) by decide)] at H
              have H' := Aside0.mk H
              clear H
              have hnb124 := NB365_310.out
              have hnc124 := NB310_365.out
              have hnb125 := NB365_311.out
              have hnc125 := NB311_365.out
              have hnb126 := NB365_312.out
              have hnc126 := NB312_365.out
              obtain ⟨hcz127_0, hcz127_1, hcz127_2, hcz127_3, hcz127_4, hcz127_5, hcz127_6, hcz127_7, hcz127_8, hcz127_9⟩ := cells10 BK365.out
              obtain ⟨hfz127_0, hfz127_1, hfz127_2, hfz127_3, hfz127_4, hfz127_5, hfz127_6, hfz127_7, hfz127_8, hfz127_9⟩ := frozen10 BK365.out
              go_wp2_with (first | ((with_reducible refine gate_st (ty := 29) rfl ?_); refine storeC8 rfl rfl rfl rfl rfl qlch qr2c qg3m rfl ?_) | ((with_reducible refine gate_ld (ty := 29) rfl ?_); (try (with_reducible refine gate_gd rfl ?_; refine gate_guard q8ju ?_; dsimp only)); refine load_st rfl rfl rfl qlch qr2c Tryd.underlying29 rfl qg3m ?_; (try simp only [Act.put, List.setIfInBounds_toArray, List.set_cons_zero, List.set_cons_succ])) | ((with_reducible refine gate_st (ty := 33) rfl ?_); refine storeC6 rfl rfl rfl rfl rfl qlch qr2c qg3m rfl ?_) | ((with_reducible refine gate_ld (ty := 33) rfl ?_); (try (with_reducible refine gate_gd rfl ?_; refine gate_guard q8ju ?_; dsimp only)); refine load_st rfl rfl rfl qlch qr2c Tryd.underlying33 rfl qg3m ?_; (try simp only [Act.put, List.setIfInBounds_toArray, List.set_cons_zero, List.set_cons_succ])) | ((with_reducible refine gate_st (ty := 35) rfl ?_); refine storeC5 rfl rfl rfl rfl rfl qlch qr2c qg3m rfl ?_) | ((with_reducible refine gate_ld (ty := 35) rfl ?_); (try (with_reducible refine gate_gd rfl ?_; refine gate_guard q8ju ?_; dsimp only)); refine load_st rfl rfl rfl qlch qr2c Tryd.underlying35 rfl qg3m ?_; (try simp only [Act.put, List.setIfInBounds_toArray, List.set_cons_zero, List.set_cons_succ])) | ((with_reducible refine gate_st (ty := 64) rfl ?_); refine storeC10 rfl rfl rfl rfl rfl qlch qr2c qg3m rfl ?_) | ((with_reducible refine gate_ld (ty := 64) rfl ?_); (try (with_reducible refine gate_gd rfl ?_; refine gate_guard q8ju ?_; dsimp only)); refine load_st rfl rfl rfl qlch qr2c Tryd.underlying64 rfl qg3m ?_; (try simp only [Act.put, List.setIfInBounds_toArray, List.set_cons_zero, List.set_cons_succ])) | go_in)
              go_meet
              case rel => exact ⟨_, (decide (t358 > 0)), q8z4, H', ⟨(by have := HJ3.out; have := HJ22.out; have := HJ87.out; first | omega | exact Nat.le_refl _)⟩, ⟨qufl⟩, ⟨qubq⟩, ⟨qkhg⟩, ⟨q5f1⟩, ⟨qoki⟩⟩
            case rest =>
             clear HC114
             try clear c1
             try clear c2
             try clear p2
             try clear c3
             try clear c4
             try clear c5
             try clear c7
             try clear c8
             try clear c8b0
             try clear c8b1
             try clear c9
             try clear c10
             try clear c11
             try clear c12
             try clear c13
             try clear c15
             try clear c17
             try clear c18
             try clear c19
             try clear c20
             try clear c21
             try clear c24
             try clear c25
             try clear c26
             try clear c29
             try clear c30
             try clear c30b0
             try clear c30b1
             try clear c31
             try clear c32
             try clear c34
             try clear c35
             try clear c37
             try clear c38
             try clear c40
             try clear c43
             try clear c44
             try clear c46
             try clear c48
             try clear c48b0
             try clear c48b1
             try clear c50
             try clear c51
             try clear c52
             try clear c56
             try clear c57
             try clear c58
             try clear c74
             try clear c75
             try clear c79
             try clear c80
             try clear c81
             try clear c84
             try clear c89
             try clear c90
             try clear c94
             try clear c95
             try clear c96
             try clear c98
             try clear c98b0
             try clear c98b1
             try clear c99
             try clear c100
             try clear c101
             try clear c103
             try clear c106
             try clear c107
             try clear c108
             try clear c110
             try clear c111
             try clear c113
             try clear c113b0
             try clear c113b1
             try clear c115
             try clear c116
             try clear c117
             try clear c119
             try clear c120
             try clear c121
             try clear c122
             try clear c124
             try clear c125
             try clear c126
             try clear p2
             obtain ⟨kq, x92_113, rfl, HA, HJ113, BK310, BK311, BK312, BK365, HB⟩ := hcut
             cases kq with
             | zero => exact absurd HA.out (by simp [gangwayref20_Take.j3])
             | succ kj113 =>
              have H := HA.out
              clear HA
              simp only [gangwayref20_Take.j3] at H
              by_cases c128 : x92_113 = true
              ·subst c128
               rw [if_pos rfl] at H
               replace H := Option.bind_eq_some_iff.mp H
               obtain ⟨⟨t388, t389, t390, t391, t392, t393, t394, t395, t396, t397, t398⟩, A1290, H⟩ := H
               try dsimp only at H
               have A129 := Aside0.mk A1290
               clear A1290
               simp only [Option.some.injEq, Prod.mk.injEq] at H
               obtain ⟨rfl, rfl, rfl, rfl, rfl, rfl, rfl, rfl, rfl, rfl, rfl⟩ := H
               go_wp2_with (first | ((with_reducible refine gate_st (ty := 29) rfl ?_); refine storeC8 rfl rfl rfl rfl rfl qlch qr2c qg3m rfl ?_) | ((with_reducible refine gate_ld (ty := 29) rfl ?_); (try (with_reducible refine gate_gd rfl ?_; refine gate_guard q8ju ?_; dsimp only)); refine load_st rfl rfl rfl qlch qr2c Tryd.underlying29 rfl qg3m ?_; (try simp only [Act.put, List.setIfInBounds_toArray, List.set_cons_zero, List.set_cons_succ])) | ((with_reducible refine gate_st (ty := 33) rfl ?_); refine storeC6 rfl rfl rfl rfl rfl qlch qr2c qg3m rfl ?_) | ((with_reducible refine gate_ld (ty := 33) rfl ?_); (try (with_reducible refine gate_gd rfl ?_; refine gate_guard q8ju ?_; dsimp only)); refine load_st rfl rfl rfl qlch qr2c Tryd.underlying33 rfl qg3m ?_; (try simp only [Act.put, List.setIfInBounds_toArray, List.set_cons_zero, List.set_cons_succ])) | ((with_reducible refine gate_st (ty := 35) rfl ?_); refine storeC5 rfl rfl rfl rfl rfl qlch qr2c qg3m rfl ?_) | ((with_reducible refine gate_ld (ty := 35) rfl ?_); (try (with_reducible refine gate_gd rfl ?_; refine gate_guard q8ju ?_; dsimp only)); refine load_st rfl rfl rfl qlch qr2c Tryd.underlying35 rfl qg3m ?_; (try simp only [Act.put, List.setIfInBounds_toArray, List.set_cons_zero, List.set_cons_succ])) | ((with_reducible refine gate_st (ty := 64) rfl ?_); refine storeC10 rfl rfl rfl rfl rfl qlch qr2c qg3m rfl ?_) | ((with_reducible refine gate_ld (ty := 64) rfl ?_); (try (with_reducible refine gate_gd rfl ?_; refine gate_guard q8ju ?_; dsimp only)); refine load_st rfl rfl rfl qlch qr2c Tryd.underlying64 rfl qg3m ?_; (try simp only [Act.put, List.setIfInBounds_toArray, List.set_cons_zero, List.set_cons_succ])) | ((with_reducible refine gate_callee (f := 17) rfl ?_); refine goesL_ (some 93) rfl rfl Tryd.func17 qg3m rfl #[.int .i64 5] rfl qraq ?_; (with_reducible refine (gangwayref20_why.calls 5 t388 t389 t390 t391 t392 t393 t394 t395 t396 t397 t398 _ A129.out).mono ?_); rintro e w130 ⟨rfl, hb⟩; refine ⟨_, rfl, ?_⟩; replace BK310 := Aside0.mk (blk_below (g := gb310) qufl hb); replace BK311 := Aside0.mk (blk_below (g := gb311) qubq hb); replace BK312 := Aside0.mk (blk_below (g := gb312) qkhg hb); replace BK365 := Aside0.mk (blk_below (g := gb365) q5f1 hb); replace HB := Aside0.mk (below_step qoki hb); obtain ⟨hcy1_310_0, hcy1_310_1, hcy1_310_2, hcy1_310_3, hcy1_310_4, hcy1_310_5, hcy1_310_6, hcy1_310_7⟩ := cells8 BK310.out; (try clear hb); (try clear hb2); (try clear hk); (try clear hi); have hnb131 := NB311_310.out; have hnc131 := NB310_311.out; have hnb132 := NB311_312.out; have hnc132 := NB312_311.out; have hnb133 := NB311_365.out; have hnc133 := NB365_311.out; obtain ⟨hcz134_0, hcz134_1, hcz134_2, hcz134_3, hcz134_4, hcz134_5⟩ := cells6 BK311.out; obtain ⟨hfz134_0, hfz134_1, hfz134_2, hfz134_3, hfz134_4, hfz134_5⟩ := frozen6 BK311.out; have hnb135 := NB312_310.out; have hnc135 := NB310_312.out; have hnb136 := NB312_365.out; have hnc136 := NB365_312.out; obtain ⟨hcz137_0, hcz137_1, hcz137_2, hcz137_3, hcz137_4⟩ := cells5 BK312.out; obtain ⟨hfz137_0, hfz137_1, hfz137_2, hfz137_3, hfz137_4⟩ := frozen5 BK312.out))
               refine bodyPost_ret (results_cc rfl _ _ gb311 gb312 33 35 #[.int .i64 t388, .int .u32 t389, .int .i64 t390, .int .i64 t391, .bool t392, .string t393] #[.int .i64 t394, .int .u64 t395, .int .u32 t396, .int .u64 t397, .int .u32 t398] (0, 0) (0, 0) _ _ rfl qvqw Tryd.underlying33 rfl qg3m rfl q95j Tryd.underlying35 rfl qg3m) rfl ?_
               exact ⟨qxu5, qoki⟩
              ·replace c128 := Bool.eq_false_iff.mpr c128
               subst c128
               rw [if_neg (show ¬ (false = true) by decide)] at H
               replace H := Option.bind_eq_some_iff.mp H
               obtain ⟨⟨t399, t400, t401, t402, t403⟩, A1380, H⟩ := H
               try dsimp only at H
               have A138 := Aside0.mk A1380
               clear A1380
               have HC139 := Aside0.mk H
               clear H
               have hnb140 := NB365_310.out
               have hnc140 := NB310_365.out
               have hnb141 := NB365_311.out
               have hnc141 := NB311_365.out
               have hnb142 := NB365_312.out
               have hnc142 := NB312_365.out
               obtain ⟨hcz143_0, hcz143_1, hcz143_2, hcz143_3, hcz143_4, hcz143_5, hcz143_6, hcz143_7, hcz143_8, hcz143_9⟩ := cells10 BK365.out
               obtain ⟨hfz143_0, hfz143_1, hfz143_2, hfz143_3, hfz143_4, hfz143_5, hfz143_6, hfz143_7, hfz143_8, hfz143_9⟩ := frozen10 BK365.out
               go_upto_region 18 with (first | ((with_reducible refine gate_st (ty := 29) rfl ?_); refine storeC8 rfl rfl rfl rfl rfl qlch qr2c qg3m rfl ?_) | ((with_reducible refine gate_ld (ty := 29) rfl ?_); (try (with_reducible refine gate_gd rfl ?_; refine gate_guard q8ju ?_; dsimp only)); refine load_st rfl rfl rfl qlch qr2c Tryd.underlying29 rfl qg3m ?_; (try simp only [Act.put, List.setIfInBounds_toArray, List.set_cons_zero, List.set_cons_succ])) | ((with_reducible refine gate_st (ty := 33) rfl ?_); refine storeC6 rfl rfl rfl rfl rfl qlch qr2c qg3m rfl ?_) | ((with_reducible refine gate_ld (ty := 33) rfl ?_); (try (with_reducible refine gate_gd rfl ?_; refine gate_guard q8ju ?_; dsimp only)); refine load_st rfl rfl rfl qlch qr2c Tryd.underlying33 rfl qg3m ?_; (try simp only [Act.put, List.setIfInBounds_toArray, List.set_cons_zero, List.set_cons_succ])) | ((with_reducible refine gate_st (ty := 35) rfl ?_); refine storeC5 rfl rfl rfl rfl rfl qlch qr2c qg3m rfl ?_) | ((with_reducible refine gate_ld (ty := 35) rfl ?_); (try (with_reducible refine gate_gd rfl ?_; refine gate_guard q8ju ?_; dsimp only)); refine load_st rfl rfl rfl qlch qr2c Tryd.underlying35 rfl qg3m ?_; (try simp only [Act.put, List.setIfInBounds_toArray, List.set_cons_zero, List.set_cons_succ])) | ((with_reducible refine gate_st (ty := 64) rfl ?_); refine storeC10 rfl rfl rfl rfl rfl qlch qr2c qg3m rfl ?_) | ((with_reducible refine gate_ld (ty := 64) rfl ?_); (try (with_reducible refine gate_gd rfl ?_; refine gate_guard q8ju ?_; dsimp only)); refine load_st rfl rfl rfl qlch qr2c Tryd.underlying64 rfl qg3m ?_; (try simp only [Act.put, List.setIfInBounds_toArray, List.set_cons_zero, List.set_cons_succ])) | ((with_reducible refine gate_callee (f := 21) rfl ?_); refine goesL_ (some 103) rfl rfl Tryd.func21 qg3m rfl #[.int .u32 t361, .int .u32 t362, .string t363] rfl qraq ?_; (with_reducible refine (gangwayref07_Parse.calls kj113 t361 t362 t363 t399 t400 t401 t402 t403 _ A138.out).mono ?_); rintro e w144 ⟨rfl, hb⟩; refine ⟨_, rfl, ?_⟩; replace BK310 := Aside0.mk (blk_below (g := gb310) qufl hb); replace BK311 := Aside0.mk (blk_below (g := gb311) qubq hb); replace BK312 := Aside0.mk (blk_below (g := gb312) qkhg hb); replace BK365 := Aside0.mk (blk_below (g := gb365) q5f1 hb); replace HB := Aside0.mk (below_step qoki hb); (try clear hb); (try clear hb2); (try clear hk); (try clear hi)) | ((with_reducible refine gate_dst (N := 12) rfl ?_); refine box_event qgcr (N := 12) qgcr (cs := #[.int .i64 0, .int .i64 0, .bool false, .string (⟨#[]⟩ : ByteArray)]) (t := 31) qlto ?_; intro gb404 hg w145 hbox hb; have BK404 := Aside0.mk (hbox); have GE404 := Aside0.mk ((by rw [hg]; exact (below_size qoki) : w.heap.size ≤ gb404)); have NB310_404 := Aside0.mk ((q0xp : gb310 ≠ gb404)); have NB404_310 := Aside0.mk ((q649 : gb404 ≠ gb310)); have NB311_404 := Aside0.mk ((q0x3 : gb311 ≠ gb404)); have NB404_311 := Aside0.mk ((q2cb : gb404 ≠ gb311)); have NB312_404 := Aside0.mk ((qxy7 : gb312 ≠ gb404)); have NB404_312 := Aside0.mk ((qwky : gb404 ≠ gb312)); have NB365_404 := Aside0.mk ((by rw [hg]; exact Nat.ne_of_lt (blk_lt (g := gb365) q5f1) : gb365 ≠ gb404)); have NB404_365 := Aside0.mk ((by rw [hg]; exact Nat.ne_of_gt (blk_lt (g := gb365) q5f1) : gb404 ≠ gb365)); replace BK310 := Aside0.mk (blk_below (g := gb310) qufl hb); replace BK311 := Aside0.mk (blk_below (g := gb311) qubq hb); replace BK312 := Aside0.mk (blk_below (g := gb312) qkhg hb); replace BK365 := Aside0.mk (blk_below (g := gb365) q5f1 hb); replace HB := Aside0.mk (below_step qoki hb); clear hb hbox hg; have hnb146 := NB404_310.out; have hnc146 := NB310_404.out; have hnb147 := NB404_311.out; have hnc147 := NB311_404.out; have hnb148 := NB404_312.out; have hnc148 := NB312_404.out; have hnb149 := NB404_365.out; have hnc149 := NB365_404.out; obtain ⟨hcz150_0, hcz150_1, hcz150_2, hcz150_3⟩ := cells4 BK404.out; obtain ⟨hfz150_0, hfz150_1, hfz150_2, hfz150_3⟩ := frozen4 BK404.out))
               (try simp only [Act.put, List.setIfInBounds_toArray, List.set_cons_zero, List.set_cons_succ])
               go_cut [112] (fun v112 wc => ∃ (kq : Nat) (x112_138 : Bool), v112 = .bool x112_138 ∧ Aside0 (gangwayref20_Take.j4 kq x112_138 t354 t355 t356 t357 t358 t359 t360 t361 t362 t363 t399 t400 t401 t402 = some (r1, r2, r3, r4, r5, r6, r7, r8, r9, r10, r11)) ∧ Aside0 (kq ≤ kj113) ∧ Aside0 (wc.heap[gb310]? = some (.cells #[.int .u64 a2_0, .int .u64 a2_1, .bool a2_2, .int .i64 a2_3, .bool a2_4, .int .i64 a2_5, .int .i64 a2_6, .string a2_7] 29 (0, 0))) ∧ Aside0 (wc.heap[gb311]? = some (.cells #[.int .i64 0, .int .u32 0, .int .i64 0, .int .i64 0, .bool false, .string (⟨#[]⟩ : ByteArray)] 33 (0, 0))) ∧ Aside0 (wc.heap[gb312]? = some (.cells #[.int .i64 0, .int .u64 0, .int .u32 0, .int .u64 0, .int .u32 0] 35 (0, 0))) ∧ Aside0 (wc.heap[gb365]? = some (.cells #[.int .i64 t354, .int .i64 t355, .bool t356, .bool t357, .int .i64 t358, .int .i64 t359, .int .i64 t360, .int .u32 t361, .int .u32 t362, .string t363] 64 (0, 0))) ∧ Aside0 (wc.heap[gb404]? = some (.cells #[.int .i64 t399, .int .i64 t400, .bool t401, .string t402] 31 (0, 0))) ∧ Aside0 (Below w.heap.size w wc))
               case first =>
                have H := HC139.out
                clear HC139
                by_cases c151 : t360 = 17
                ·rw [if_pos c151] at H
                 have c151b0 : (t360 == 17) = true := beq_iff_eq.mpr c151
                 have c151b1 : (t360 != 17) = false := bne_eq_false_iff_eq.mpr c151
                 clear c151
                 (first | rw [c151b0] | (simp only [i64_w, i32_w]; rw [c151b0]) | skip)
                 have H' := Aside0.mk H
                 clear H
                 have hnb152 := NB365_310.out
                 have hnc152 := NB310_365.out
                 have hnb153 := NB365_311.out
                 have hnc153 := NB311_365.out
                 have hnb154 := NB365_312.out
                 have hnc154 := NB312_365.out
                 have hnb155 := NB365_404.out
                 have hnc155 := NB404_365.out
                 obtain ⟨hcz156_0, hcz156_1, hcz156_2, hcz156_3, hcz156_4, hcz156_5, hcz156_6, hcz156_7, hcz156_8, hcz156_9⟩ := cells10 BK365.out
                 obtain ⟨hfz156_0, hfz156_1, hfz156_2, hfz156_3, hfz156_4, hfz156_5, hfz156_6, hfz156_7, hfz156_8, hfz156_9⟩ := frozen10 BK365.out
                 go_wp2_with (first | ((with_reducible refine gate_st (ty := 29) rfl ?_); refine storeC8 rfl rfl rfl rfl rfl qlch qr2c qg3m rfl ?_) | ((with_reducible refine gate_ld (ty := 29) rfl ?_); (try (with_reducible refine gate_gd rfl ?_; refine gate_guard q8ju ?_; dsimp only)); refine load_st rfl rfl rfl qlch qr2c Tryd.underlying29 rfl qg3m ?_; (try simp only [Act.put, List.setIfInBounds_toArray, List.set_cons_zero, List.set_cons_succ])) | ((with_reducible refine gate_st (ty := 33) rfl ?_); refine storeC6 rfl rfl rfl rfl rfl qlch qr2c qg3m rfl ?_) | ((with_reducible refine gate_ld (ty := 33) rfl ?_); (try (with_reducible refine gate_gd rfl ?_; refine gate_guard q8ju ?_; dsimp only)); refine load_st rfl rfl rfl qlch qr2c Tryd.underlying33 rfl qg3m ?_; (try simp only [Act.put, List.setIfInBounds_toArray, List.set_cons_zero, List.set_cons_succ])) | ((with_reducible refine gate_st (ty := 35) rfl ?_); refine storeC5 rfl rfl rfl rfl rfl qlch qr2c qg3m rfl ?_) | ((with_reducible refine gate_ld (ty := 35) rfl ?_); (try (with_reducible refine gate_gd rfl ?_; refine gate_guard q8ju ?_; dsimp only)); refine load_st rfl rfl rfl qlch qr2c Tryd.underlying35 rfl qg3m ?_; (try simp only [Act.put, List.setIfInBounds_toArray, List.set_cons_zero, List.set_cons_succ])) | ((with_reducible refine gate_st (ty := 64) rfl ?_); refine storeC10 rfl rfl rfl rfl rfl qlch qr2c qg3m rfl ?_) | ((with_reducible refine gate_ld (ty := 64) rfl ?_); (try (with_reducible refine gate_gd rfl ?_; refine gate_guard q8ju ?_; dsimp only)); refine load_st rfl rfl rfl qlch qr2c Tryd.underlying64 rfl qg3m ?_; (try simp only [Act.put, List.setIfInBounds_toArray, List.set_cons_zero, List.set_cons_succ])) | go_in)
                 go_meet
                 case rel => exact ⟨_, ((t403 != 0)), q8z4, H', ⟨(by have := HJ3.out; have := HJ22.out; have := HJ87.out; have := HJ113.out; first | omega | exact Nat.le_refl _)⟩, ⟨qxsq⟩, ⟨qim3⟩, ⟨q0b6⟩, ⟨q0dt⟩, ⟨qx2f⟩, ⟨q0dv⟩⟩
                ·rw [if_neg c151] at H
                 have c151b0 : (t360 == 17) = false := beq_eq_false_iff_ne.mpr c151
                 have c151b1 : (t360 != 17) = true := bne_iff_ne.mpr c151
                 (first | rw [c151b0] | (simp only [i64_w, i32_w]; rw [c151b0]) | skip)
                 have H' := Aside0.mk H
                 clear H
                 have hnb157 := NB365_310.out
                 have hnc157 := NB310_365.out
                 have hnb158 := NB365_311.out
                 have hnc158 := NB311_365.out
                 have hnb159 := NB365_312.out
                 have hnc159 := NB312_365.out
                 have hnb160 := NB365_404.out
                 have hnc160 := NB404_365.out
                 obtain ⟨hcz161_0, hcz161_1, hcz161_2, hcz161_3, hcz161_4, hcz161_5, hcz161_6, hcz161_7, hcz161_8, hcz161_9⟩ := cells10 BK365.out
                 obtain ⟨hfz161_0, hfz161_1, hfz161_2, hfz161_3, hfz161_4, hfz161_5, hfz161_6, hfz161_7, hfz161_8, hfz161_9⟩ := frozen10 BK365.out
                 go_wp2_with (first | ((with_reducible refine gate_st (ty := 29) rfl ?_); refine storeC8 rfl rfl rfl rfl rfl qlch qr2c qg3m rfl ?_) | ((with_reducible refine gate_ld (ty := 29) rfl ?_); (try (with_reducible refine gate_gd rfl ?_; refine gate_guard q8ju ?_; dsimp only)); refine load_st rfl rfl rfl qlch qr2c Tryd.underlying29 rfl qg3m ?_; (try simp only [Act.put, List.setIfInBounds_toArray, List.set_cons_zero, List.set_cons_succ])) | ((with_reducible refine gate_st (ty := 33) rfl ?_); refine storeC6 rfl rfl rfl rfl rfl qlch qr2c qg3m rfl ?_) | ((with_reducible refine gate_ld (ty := 33) rfl ?_); (try (with_reducible refine gate_gd rfl ?_; refine gate_guard q8ju ?_; dsimp only)); refine load_st rfl rfl rfl qlch qr2c Tryd.underlying33 rfl qg3m ?_; (try simp only [Act.put, List.setIfInBounds_toArray, List.set_cons_zero, List.set_cons_succ])) | ((with_reducible refine gate_st (ty := 35) rfl ?_); refine storeC5 rfl rfl rfl rfl rfl qlch qr2c qg3m rfl ?_) | ((with_reducible refine gate_ld (ty := 35) rfl ?_); (try (with_reducible refine gate_gd rfl ?_; refine gate_guard q8ju ?_; dsimp only)); refine load_st rfl rfl rfl qlch qr2c Tryd.underlying35 rfl qg3m ?_; (try simp only [Act.put, List.setIfInBounds_toArray, List.set_cons_zero, List.set_cons_succ])) | ((with_reducible refine gate_st (ty := 64) rfl ?_); refine storeC10 rfl rfl rfl rfl rfl qlch qr2c qg3m rfl ?_) | ((with_reducible refine gate_ld (ty := 64) rfl ?_); (try (with_reducible refine gate_gd rfl ?_; refine gate_guard q8ju ?_; dsimp only)); refine load_st rfl rfl rfl qlch qr2c Tryd.underlying64 rfl qg3m ?_; (try simp only [Act.put, List.setIfInBounds_toArray, List.set_cons_zero, List.set_cons_succ])) | go_in)
                 go_meet
                 case rel => exact ⟨_, (true), q8z4, H', ⟨(by have := HJ3.out; have := HJ22.out; have := HJ87.out; have := HJ113.out; first | omega | exact Nat.le_refl _)⟩, ⟨qxsq⟩, ⟨qim3⟩, ⟨q0b6⟩, ⟨q0dt⟩, ⟨qx2f⟩, ⟨q0dv⟩⟩
               case rest =>
                clear HC139
                try clear c1
                try clear c2
                try clear p2
                try clear c3
                try clear c4
                try clear c5
                try clear c7
                try clear c8
                try clear c8b0
                try clear c8b1
                try clear c9
                try clear c10
                try clear c11
                try clear c12
                try clear c13
                try clear c14
                try clear c15
                try clear c16
                try clear c17
                try clear c18
                try clear c19
                try clear c20
                try clear c21
                try clear c24
                try clear c25
                try clear c26
                try clear c29
                try clear c30
                try clear c30b0
                try clear c30b1
                try clear c31
                try clear c32
                try clear c34
                try clear c35
                try clear c37
                try clear c38
                try clear c40
                try clear c43
                try clear c44
                try clear c46
                try clear c48
                try clear c48b0
                try clear c48b1
                try clear c50
                try clear c51
                try clear c52
                try clear c56
                try clear c57
                try clear c58
                try clear c74
                try clear c75
                try clear c79
                try clear c80
                try clear c81
                try clear c84
                try clear c89
                try clear c90
                try clear c94
                try clear c95
                try clear c96
                try clear c98
                try clear c98b0
                try clear c98b1
                try clear c99
                try clear c100
                try clear c101
                try clear c103
                try clear c106
                try clear c107
                try clear c108
                try clear c110
                try clear c111
                try clear c113
                try clear c113b0
                try clear c113b1
                try clear c115
                try clear c116
                try clear c117
                try clear c119
                try clear c120
                try clear c121
                try clear c122
                try clear c124
                try clear c125
                try clear c126
                try clear c128
                try clear c131
                try clear c132
                try clear c133
                try clear c135
                try clear c136
                try clear c140
                try clear c141
                try clear c142
                try clear c146
                try clear c147
                try clear c148
                try clear c149
                try clear c151
                try clear c151b0
                try clear c151b1
                try clear c152
                try clear c153
                try clear c154
                try clear c155
                try clear c157
                try clear c158
                try clear c159
                try clear c160
                try clear p2
                obtain ⟨kq, x112_138, rfl, HA, HJ138, BK310, BK311, BK312, BK365, BK404, HB⟩ := hcut
                cases kq with
                | zero => exact absurd HA.out (by simp [gangwayref20_Take.j4])
                | succ kj138 =>
                 have H := HA.out
                 clear HA
                 simp only [gangwayref20_Take.j4] at H
                 by_cases c162 : x112_138 = true
                 ·subst c162
                  rw [if_pos rfl] at H
                  replace H := Option.bind_eq_some_iff.mp H
                  obtain ⟨⟨t405, t406, t407, t408, t409, t410, t411, t412, t413, t414, t415⟩, A1630, H⟩ := H
                  try dsimp only at H
                  have A163 := Aside0.mk A1630
                  clear A1630
                  simp only [Option.some.injEq, Prod.mk.injEq] at H
                  obtain ⟨rfl, rfl, rfl, rfl, rfl, rfl, rfl, rfl, rfl, rfl, rfl⟩ := H
                  go_wp2_with (first | ((with_reducible refine gate_st (ty := 29) rfl ?_); refine storeC8 rfl rfl rfl rfl rfl qlch qr2c qg3m rfl ?_) | ((with_reducible refine gate_ld (ty := 29) rfl ?_); (try (with_reducible refine gate_gd rfl ?_; refine gate_guard q8ju ?_; dsimp only)); refine load_st rfl rfl rfl qlch qr2c Tryd.underlying29 rfl qg3m ?_; (try simp only [Act.put, List.setIfInBounds_toArray, List.set_cons_zero, List.set_cons_succ])) | ((with_reducible refine gate_st (ty := 33) rfl ?_); refine storeC6 rfl rfl rfl rfl rfl qlch qr2c qg3m rfl ?_) | ((with_reducible refine gate_ld (ty := 33) rfl ?_); (try (with_reducible refine gate_gd rfl ?_; refine gate_guard q8ju ?_; dsimp only)); refine load_st rfl rfl rfl qlch qr2c Tryd.underlying33 rfl qg3m ?_; (try simp only [Act.put, List.setIfInBounds_toArray, List.set_cons_zero, List.set_cons_succ])) | ((with_reducible refine gate_st (ty := 35) rfl ?_); refine storeC5 rfl rfl rfl rfl rfl qlch qr2c qg3m rfl ?_) | ((with_reducible refine gate_ld (ty := 35) rfl ?_); (try (with_reducible refine gate_gd rfl ?_; refine gate_guard q8ju ?_; dsimp only)); refine load_st rfl rfl rfl qlch qr2c Tryd.underlying35 rfl qg3m ?_; (try simp only [Act.put, List.setIfInBounds_toArray, List.set_cons_zero, List.set_cons_succ])) | ((with_reducible refine gate_st (ty := 64) rfl ?_); refine storeC10 rfl rfl rfl rfl rfl qlch qr2c qg3m rfl ?_) | ((with_reducible refine gate_ld (ty := 64) rfl ?_); (try (with_reducible refine gate_gd rfl ?_; refine gate_guard q8ju ?_; dsimp only)); refine load_st rfl rfl rfl qlch qr2c Tryd.underlying64 rfl qg3m ?_; (try simp only [Act.put, List.setIfInBounds_toArray, List.set_cons_zero, List.set_cons_succ])) | ((with_reducible refine gate_callee (f := 17) rfl ?_); refine goesL_ (some 113) rfl rfl Tryd.func17 qg3m rfl #[.int .i64 6] rfl qraq ?_; (with_reducible refine (gangwayref20_why.calls 6 t405 t406 t407 t408 t409 t410 t411 t412 t413 t414 t415 _ A163.out).mono ?_); rintro e w164 ⟨rfl, hb⟩; refine ⟨_, rfl, ?_⟩; replace BK310 := Aside0.mk (blk_below (g := gb310) qufl hb); replace BK311 := Aside0.mk (blk_below (g := gb311) qubq hb); replace BK312 := Aside0.mk (blk_below (g := gb312) qkhg hb); replace BK365 := Aside0.mk (blk_below (g := gb365) q5f1 hb); replace BK404 := Aside0.mk (blk_below (g := gb404) q70w hb); replace HB := Aside0.mk (below_step q0dv hb); obtain ⟨hcy1_310_0, hcy1_310_1, hcy1_310_2, hcy1_310_3, hcy1_310_4, hcy1_310_5, hcy1_310_6, hcy1_310_7⟩ := cells8 BK310.out; (try clear hb); (try clear hb2); (try clear hk); (try clear hi); have hnb165 := NB311_310.out; have hnc165 := NB310_311.out; have hnb166 := NB311_312.out; have hnc166 := NB312_311.out; have hnb167 := NB311_365.out; have hnc167 := NB365_311.out; have hnb168 := NB311_404.out; have hnc168 := NB404_311.out; obtain ⟨hcz169_0, hcz169_1, hcz169_2, hcz169_3, hcz169_4, hcz169_5⟩ := cells6 BK311.out; obtain ⟨hfz169_0, hfz169_1, hfz169_2, hfz169_3, hfz169_4, hfz169_5⟩ := frozen6 BK311.out; have hnb170 := NB312_310.out; have hnc170 := NB310_312.out; have hnb171 := NB312_365.out; have hnc171 := NB365_312.out; have hnb172 := NB312_404.out; have hnc172 := NB404_312.out; obtain ⟨hcz173_0, hcz173_1, hcz173_2, hcz173_3, hcz173_4⟩ := cells5 BK312.out; obtain ⟨hfz173_0, hfz173_1, hfz173_2, hfz173_3, hfz173_4⟩ := frozen5 BK312.out))
                  refine bodyPost_ret (results_cc rfl _ _ gb311 gb312 33 35 #[.int .i64 t405, .int .u32 t406, .int .i64 t407, .int .i64 t408, .bool t409, .string t410] #[.int .i64 t411, .int .u64 t412, .int .u32 t413, .int .u64 t414, .int .u32 t415] (0, 0) (0, 0) _ _ rfl qvqw Tryd.underlying33 rfl qg3m rfl q95j Tryd.underlying35 rfl qg3m) rfl ?_
                  exact ⟨qxu5, q0dv⟩
                 ·replace c162 := Bool.eq_false_iff.mpr c162
                  subst c162
                  rw [if_neg (show ¬ (false = true) by decide)] at H
                  by_cases c174 : t400 = 4789
                  ·rw [if_pos c174] at H
                   have c174b0 : (t400 == 4789) = true := beq_iff_eq.mpr c174
                   have c174b1 : (t400 != 4789) = false := bne_eq_false_iff_eq.mpr c174
                   clear c174
                   simp only [Option.some.injEq, Prod.mk.injEq] at H
                   obtain ⟨rfl, rfl, rfl, rfl, rfl, rfl, rfl, rfl, rfl, rfl, rfl⟩ := H
                   have hnb175 := NB404_310.out
                   have hnc175 := NB310_404.out
                   have hnb176 := NB404_311.out
                   have hnc176 := NB311_404.out
                   have hnb177 := NB404_312.out
                   have hnc177 := NB312_404.out
                   have hnb178 := NB404_365.out
                   have hnc178 := NB365_404.out
                   obtain ⟨hcz179_0, hcz179_1, hcz179_2, hcz179_3⟩ := cells4 BK404.out
                   obtain ⟨hfz179_0, hfz179_1, hfz179_2, hfz179_3⟩ := frozen4 BK404.out
                   have hnb180 := NB365_310.out
                   have hnc180 := NB310_365.out
                   have hnb181 := NB365_311.out
                   have hnc181 := NB311_365.out
                   have hnb182 := NB365_312.out
                   have hnc182 := NB312_365.out
                   obtain ⟨hcz183_0, hcz183_1, hcz183_2, hcz183_3, hcz183_4, hcz183_5, hcz183_6, hcz183_7, hcz183_8, hcz183_9⟩ := cells10 BK365.out
                   obtain ⟨hfz183_0, hfz183_1, hfz183_2, hfz183_3, hfz183_4, hfz183_5, hfz183_6, hfz183_7, hfz183_8, hfz183_9⟩ := frozen10 BK365.out
                   have hnb184 := NB311_310.out
                   have hnc184 := NB310_311.out
                   have hnb185 := NB311_312.out
                   have hnc185 := NB312_311.out
                   obtain ⟨hcz186_0, hcz186_1, hcz186_2, hcz186_3, hcz186_4, hcz186_5⟩ := cells6 BK311.out
                   obtain ⟨hfz186_0, hfz186_1, hfz186_2, hfz186_3, hfz186_4, hfz186_5⟩ := frozen6 BK311.out
                   have hnb187 := NB312_310.out
                   have hnc187 := NB310_312.out
                   obtain ⟨hcz188_0, hcz188_1, hcz188_2, hcz188_3, hcz188_4⟩ := cells5 BK312.out
                   obtain ⟨hfz188_0, hfz188_1, hfz188_2, hfz188_3, hfz188_4⟩ := frozen5 BK312.out
                   go_wp2_with (first | ((with_reducible refine gate_st (ty := 29) rfl ?_); refine storeC8 rfl rfl rfl rfl rfl qlch qr2c qg3m rfl ?_) | ((with_reducible refine gate_ld (ty := 29) rfl ?_); (try (with_reducible refine gate_gd rfl ?_; refine gate_guard q8ju ?_; dsimp only)); refine load_st rfl rfl rfl qlch qr2c Tryd.underlying29 rfl qg3m ?_; (try simp only [Act.put, List.setIfInBounds_toArray, List.set_cons_zero, List.set_cons_succ])) | ((with_reducible refine gate_st (ty := 33) rfl ?_); refine storeC6 rfl rfl rfl rfl rfl qlch qr2c qg3m rfl ?_) | ((with_reducible refine gate_ld (ty := 33) rfl ?_); (try (with_reducible refine gate_gd rfl ?_; refine gate_guard q8ju ?_; dsimp only)); refine load_st rfl rfl rfl qlch qr2c Tryd.underlying33 rfl qg3m ?_; (try simp only [Act.put, List.setIfInBounds_toArray, List.set_cons_zero, List.set_cons_succ])) | ((with_reducible refine gate_st (ty := 35) rfl ?_); refine storeC5 rfl rfl rfl rfl rfl qlch qr2c qg3m rfl ?_) | ((with_reducible refine gate_ld (ty := 35) rfl ?_); (try (with_reducible refine gate_gd rfl ?_; refine gate_guard q8ju ?_; dsimp only)); refine load_st rfl rfl rfl qlch qr2c Tryd.underlying35 rfl qg3m ?_; (try simp only [Act.put, List.setIfInBounds_toArray, List.set_cons_zero, List.set_cons_succ])) | ((with_reducible refine gate_st (ty := 64) rfl ?_); refine storeC10 rfl rfl rfl rfl rfl qlch qr2c qg3m rfl ?_) | ((with_reducible refine gate_ld (ty := 64) rfl ?_); (try (with_reducible refine gate_gd rfl ?_; refine gate_guard q8ju ?_; dsimp only)); refine load_st rfl rfl rfl qlch qr2c Tryd.underlying64 rfl qg3m ?_; (try simp only [Act.put, List.setIfInBounds_toArray, List.set_cons_zero, List.set_cons_succ])) | go_in)
                   refine bodyPost_ret (results_cc rfl _ _ gb311 gb312 33 35 #[.int .i64 0, .int .u32 t361, .int .i64 t399, .int .i64 t400, .bool t401, .string t402] #[.int .i64 0, .int .u64 0, .int .u32 0, .int .u64 0, .int .u32 0] (0, 0) (0, 0) _ _ rfl qvqw Tryd.underlying33 rfl qg3m rfl q95j Tryd.underlying35 rfl qg3m) rfl ?_
                   exact ⟨qxu5, q0dv⟩
                  ·rw [if_neg c174] at H
                   have c174b0 : (t400 == 4789) = false := beq_eq_false_iff_ne.mpr c174
                   have c174b1 : (t400 != 4789) = true := bne_iff_ne.mpr c174
                   replace H := Option.bind_eq_some_iff.mp H
                   obtain ⟨⟨t416, t417, t418, t419, t420, t421, t422, t423, t424, t425, t426⟩, A1890, H⟩ := H
                   try dsimp only at H
                   have A189 := Aside0.mk A1890
                   clear A1890
                   simp only [Option.some.injEq, Prod.mk.injEq] at H
                   obtain ⟨rfl, rfl, rfl, rfl, rfl, rfl, rfl, rfl, rfl, rfl, rfl⟩ := H
                   have hnb190 := NB404_310.out
                   have hnc190 := NB310_404.out
                   have hnb191 := NB404_311.out
                   have hnc191 := NB311_404.out
                   have hnb192 := NB404_312.out
                   have hnc192 := NB312_404.out
                   have hnb193 := NB404_365.out
                   have hnc193 := NB365_404.out
                   obtain ⟨hcz194_0, hcz194_1, hcz194_2, hcz194_3⟩ := cells4 BK404.out
                   obtain ⟨hfz194_0, hfz194_1, hfz194_2, hfz194_3⟩ := frozen4 BK404.out
                   go_wp2_with (first | ((with_reducible refine gate_st (ty := 29) rfl ?_); refine storeC8 rfl rfl rfl rfl rfl qlch qr2c qg3m rfl ?_) | ((with_reducible refine gate_ld (ty := 29) rfl ?_); (try (with_reducible refine gate_gd rfl ?_; refine gate_guard q8ju ?_; dsimp only)); refine load_st rfl rfl rfl qlch qr2c Tryd.underlying29 rfl qg3m ?_; (try simp only [Act.put, List.setIfInBounds_toArray, List.set_cons_zero, List.set_cons_succ])) | ((with_reducible refine gate_st (ty := 33) rfl ?_); refine storeC6 rfl rfl rfl rfl rfl qlch qr2c qg3m rfl ?_) | ((with_reducible refine gate_ld (ty := 33) rfl ?_); (try (with_reducible refine gate_gd rfl ?_; refine gate_guard q8ju ?_; dsimp only)); refine load_st rfl rfl rfl qlch qr2c Tryd.underlying33 rfl qg3m ?_; (try simp only [Act.put, List.setIfInBounds_toArray, List.set_cons_zero, List.set_cons_succ])) | ((with_reducible refine gate_st (ty := 35) rfl ?_); refine storeC5 rfl rfl rfl rfl rfl qlch qr2c qg3m rfl ?_) | ((with_reducible refine gate_ld (ty := 35) rfl ?_); (try (with_reducible refine gate_gd rfl ?_; refine gate_guard q8ju ?_; dsimp only)); refine load_st rfl rfl rfl qlch qr2c Tryd.underlying35 rfl qg3m ?_; (try simp only [Act.put, List.setIfInBounds_toArray, List.set_cons_zero, List.set_cons_succ])) | ((with_reducible refine gate_st (ty := 64) rfl ?_); refine storeC10 rfl rfl rfl rfl rfl qlch qr2c qg3m rfl ?_) | ((with_reducible refine gate_ld (ty := 64) rfl ?_); (try (with_reducible refine gate_gd rfl ?_; refine gate_guard q8ju ?_; dsimp only)); refine load_st rfl rfl rfl qlch qr2c Tryd.underlying64 rfl qg3m ?_; (try simp only [Act.put, List.setIfInBounds_toArray, List.set_cons_zero, List.set_cons_succ])) | ((with_reducible refine gate_callee (f := 17) rfl ?_); refine goesL_ (some 119) rfl rfl Tryd.func17 qg3m rfl #[.int .i64 7] rfl qraq ?_; (with_reducible refine (gangwayref20_why.calls 7 t416 t417 t418 t419 t420 t421 t422 t423 t424 t425 t426 _ A189.out).mono ?_); rintro e w195 ⟨rfl, hb⟩; refine ⟨_, rfl, ?_⟩; replace BK310 := Aside0.mk (blk_below (g := gb310) qufl hb); replace BK311 := Aside0.mk (blk_below (g := gb311) qubq hb); replace BK312 := Aside0.mk (blk_below (g := gb312) qkhg hb); replace BK365 := Aside0.mk (blk_below (g := gb365) q5f1 hb); replace BK404 := Aside0.mk (blk_below (g := gb404) q70w hb); replace HB := Aside0.mk (below_step q0dv hb); obtain ⟨hcy1_310_0, hcy1_310_1, hcy1_310_2, hcy1_310_3, hcy1_310_4, hcy1_310_5, hcy1_310_6, hcy1_310_7⟩ := cells8 BK310.out; (try clear hb); (try clear hb2); (try clear hk); (try clear hi); have hnb196 := NB311_310.out; have hnc196 := NB310_311.out; have hnb197 := NB311_312.out; have hnc197 := NB312_311.out; have hnb198 := NB311_365.out; have hnc198 := NB365_311.out; obtain ⟨hcz199_0, hcz199_1, hcz199_2, hcz199_3, hcz199_4, hcz199_5⟩ := cells6 BK311.out; obtain ⟨hfz199_0, hfz199_1, hfz199_2, hfz199_3, hfz199_4, hfz199_5⟩ := frozen6 BK311.out; have hnb200 := NB312_310.out; have hnc200 := NB310_312.out; have hnb201 := NB312_365.out; have hnc201 := NB365_312.out; obtain ⟨hcz202_0, hcz202_1, hcz202_2, hcz202_3, hcz202_4⟩ := cells5 BK312.out; obtain ⟨hfz202_0, hfz202_1, hfz202_2, hfz202_3, hfz202_4⟩ := frozen5 BK312.out))
                   refine bodyPost_ret (results_cc rfl _ _ gb311 gb312 33 35 #[.int .i64 t416, .int .u32 t417, .int .i64 t418, .int .i64 t419, .bool t420, .string t421] #[.int .i64 t422, .int .u64 t423, .int .u32 t424, .int .u64 t425, .int .u32 t426] (0, 0) (0, 0) _ _ rfl qvqw Tryd.underlying33 rfl qg3m rfl q95j Tryd.underlying35 rfl qg3m) rfl ?_
                   exact ⟨qxu5, q0dv⟩
           ·rw [if_neg c113] at H
            have c113b0 : (t362 == a1) = false := beq_eq_false_iff_ne.mpr c113
            have c113b1 : (t362 != a1) = true := bne_iff_ne.mpr c113
            replace H := Option.bind_eq_some_iff.mp H
            obtain ⟨⟨t377, t378, t379, t380, t381, t382, t383, t384, t385, t386, t387⟩, A2030, H⟩ := H
            try dsimp only at H
            have A203 := Aside0.mk A2030
            clear A2030
            simp only [Option.some.injEq, Prod.mk.injEq] at H
            obtain ⟨rfl, rfl, rfl, rfl, rfl, rfl, rfl, rfl, rfl, rfl, rfl⟩ := H
            have hnb204 := NB365_310.out
            have hnc204 := NB310_365.out
            have hnb205 := NB365_311.out
            have hnc205 := NB311_365.out
            have hnb206 := NB365_312.out
            have hnc206 := NB312_365.out
            obtain ⟨hcz207_0, hcz207_1, hcz207_2, hcz207_3, hcz207_4, hcz207_5, hcz207_6, hcz207_7, hcz207_8, hcz207_9⟩ := cells10 BK365.out
            obtain ⟨hfz207_0, hfz207_1, hfz207_2, hfz207_3, hfz207_4, hfz207_5, hfz207_6, hfz207_7, hfz207_8, hfz207_9⟩ := frozen10 BK365.out
            go_wp2_with (first | ((with_reducible refine gate_st (ty := 29) rfl ?_); refine storeC8 rfl rfl rfl rfl rfl qlch qr2c qg3m rfl ?_) | ((with_reducible refine gate_ld (ty := 29) rfl ?_); (try (with_reducible refine gate_gd rfl ?_; refine gate_guard q8ju ?_; dsimp only)); refine load_st rfl rfl rfl qlch qr2c Tryd.underlying29 rfl qg3m ?_; (try simp only [Act.put, List.setIfInBounds_toArray, List.set_cons_zero, List.set_cons_succ])) | ((with_reducible refine gate_st (ty := 33) rfl ?_); refine storeC6 rfl rfl rfl rfl rfl qlch qr2c qg3m rfl ?_) | ((with_reducible refine gate_ld (ty := 33) rfl ?_); (try (with_reducible refine gate_gd rfl ?_; refine gate_guard q8ju ?_; dsimp only)); refine load_st rfl rfl rfl qlch qr2c Tryd.underlying33 rfl qg3m ?_; (try simp only [Act.put, List.setIfInBounds_toArray, List.set_cons_zero, List.set_cons_succ])) | ((with_reducible refine gate_st (ty := 35) rfl ?_); refine storeC5 rfl rfl rfl rfl rfl qlch qr2c qg3m rfl ?_) | ((with_reducible refine gate_ld (ty := 35) rfl ?_); (try (with_reducible refine gate_gd rfl ?_; refine gate_guard q8ju ?_; dsimp only)); refine load_st rfl rfl rfl qlch qr2c Tryd.underlying35 rfl qg3m ?_; (try simp only [Act.put, List.setIfInBounds_toArray, List.set_cons_zero, List.set_cons_succ])) | ((with_reducible refine gate_st (ty := 64) rfl ?_); refine storeC10 rfl rfl rfl rfl rfl qlch qr2c qg3m rfl ?_) | ((with_reducible refine gate_ld (ty := 64) rfl ?_); (try (with_reducible refine gate_gd rfl ?_; refine gate_guard q8ju ?_; dsimp only)); refine load_st rfl rfl rfl qlch qr2c Tryd.underlying64 rfl qg3m ?_; (try simp only [Act.put, List.setIfInBounds_toArray, List.set_cons_zero, List.set_cons_succ])) | ((with_reducible refine gate_callee (f := 17) rfl ?_); refine goesL_ (some 83) rfl rfl Tryd.func17 qg3m rfl #[.int .i64 2] rfl qraq ?_; (with_reducible refine (gangwayref20_why.calls 2 t377 t378 t379 t380 t381 t382 t383 t384 t385 t386 t387 _ A203.out).mono ?_); rintro e w208 ⟨rfl, hb⟩; refine ⟨_, rfl, ?_⟩; replace BK310 := Aside0.mk (blk_below (g := gb310) qufl hb); replace BK311 := Aside0.mk (blk_below (g := gb311) qubq hb); replace BK312 := Aside0.mk (blk_below (g := gb312) qkhg hb); replace BK365 := Aside0.mk (blk_below (g := gb365) q5f1 hb); replace HB := Aside0.mk (below_step qoki hb); obtain ⟨hcy1_310_0, hcy1_310_1, hcy1_310_2, hcy1_310_3, hcy1_310_4, hcy1_310_5, hcy1_310_6, hcy1_310_7⟩ := cells8 BK310.out; (try clear hb); (try clear hb2); (try clear hk); (try clear hi); have hnb209 := NB311_310.out; have hnc209 := NB310_311.out; have hnb210 := NB311_312.out; have hnc210 := NB312_311.out; obtain ⟨hcz211_0, hcz211_1, hcz211_2, hcz211_3, hcz211_4, hcz211_5⟩ := cells6 BK311.out; obtain ⟨hfz211_0, hfz211_1, hfz211_2, hfz211_3, hfz211_4, hfz211_5⟩ := frozen6 BK311.out; have hnb212 := NB312_310.out; have hnc212 := NB310_312.out; obtain ⟨hcz213_0, hcz213_1, hcz213_2, hcz213_3, hcz213_4⟩ := cells5 BK312.out; obtain ⟨hfz213_0, hfz213_1, hfz213_2, hfz213_3, hfz213_4⟩ := frozen5 BK312.out))
            refine bodyPost_ret (results_cc rfl _ _ gb311 gb312 33 35 #[.int .i64 t377, .int .u32 t378, .int .i64 t379, .int .i64 t380, .bool t381, .string t382] #[.int .i64 t383, .int .u64 t384, .int .u32 t385, .int .u64 t386, .int .u32 t387] (0, 0) (0, 0) _ _ rfl qvqw Tryd.underlying33 rfl qg3m rfl q95j Tryd.underlying35 rfl qg3m) rfl ?_
            exact ⟨qxu5, qoki⟩

end Go.Proofs.YtbkgaplldfilnaaDoor.P
