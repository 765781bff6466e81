-- slim
-- Written by wip/hprint.py (this session's program) through the kit's print program; hand contracts are marked 'by hand'.
import Derived.Test.YtbfjlhjfpmgplaaDoorAbb
import Derived.Test.YtbfjlhjfpmgplaaDoorRow
import Derived.Test.YtbfjlhjfpmgplaaDoorPx0
import Derived.Test.YtbfjlhjfpmgplaaDoorPx1
import Derived.Test.YtbfjlhjfpmgplaaDoorPx8
import Derived.Test.YtbfjlhjfpmgplaaDoorPx12
import Derived.Test.YtbfjlhjfpmgplaaDoorPx13
namespace Go.Proofs.YtbfjlhjfpmgplaaDoor.P
open Go.RowKit Go.Proofs.YtbfjlhjfpmgplaaDoorW.PrintWords Go.Proofs.YtbfjlhjfpmgplaaDoorW.PrintLast Go.Proofs.YtbfjlhjfpmgplaaDoorW.PrintMore
attribute [local go_sem] max2_int min2_int max_two min_two max_three min_three max_four min_four   -- for this text's walks alone
set_option linter.unusedVariables false
set_option linter.unusedSimpArgs false

attribute [local go_sem high] eqA24
/-! ### gangwaylaw09_fixed: function 10 -/
def gangwaylaw09_fixed.f (k : Nat)  : Option (Bool) := (gangwaylaw09_rapid.f).bind fun bt214 => ((bpdu_Build.f k bt214.1 bt214.2.1 bt214.2.2.1 bt214.2.2.2.1 bt214.2.2.2.2.1 bt214.2.2.2.2.2.1 bt214.2.2.2.2.2.2.1 bt214.2.2.2.2.2.2.2.1 bt214.2.2.2.2.2.2.2.2.1 bt214.2.2.2.2.2.2.2.2.2.1 bt214.2.2.2.2.2.2.2.2.2.2.1 bt214.2.2.2.2.2.2.2.2.2.2.2.1 bt214.2.2.2.2.2.2.2.2.2.2.2.2.1 bt214.2.2.2.2.2.2.2.2.2.2.2.2.2.1 bt214.2.2.2.2.2.2.2.2.2.2.2.2.2.2.1 bt214.2.2.2.2.2.2.2.2.2.2.2.2.2.2.2).bind fun bt230 => ((bpdu_Build.f k 128 false false false false false false 0 0 0 0 0 0 0 0 0).bind fun bt232 => (if bt230.1.size + 4 ≤ 9223372036854775807 then ((bpdu_Parse.f k (bt230.1 ++ (⟨#[109, 111, 114, 101]⟩ : ByteArray))).bind fun bt234 => (if 0 ≤ (mn (bt230.1.size : Int) 38) then (if (mn (bt230.1.size : Int) 38) ≤ (bt230.1.size : Int) then ((bpdu_Parse.f k (bt230.1.extract 0 ((mn (bt230.1.size : Int) 38) : Int).toNat)).bind fun bt252 => ((bpdu_Parse.f k (⟨#[66, 66, 3, 0, 1, 0, 128]⟩ : ByteArray)).bind fun bt270 => ((bpdu_Build.f k 0 false true false false false false 0 0 0 0 0 0 0 0 0).bind fun bt288 => ((gangwaylaw09_rapid.f).bind fun bt290 => ((bpdu_Frame.f k 2 bt290.1 bt290.2.1 bt290.2.2.1 bt290.2.2.2.1 bt290.2.2.2.2.1 bt290.2.2.2.2.2.1 bt290.2.2.2.2.2.2.1 bt290.2.2.2.2.2.2.2.1 bt290.2.2.2.2.2.2.2.2.1 bt290.2.2.2.2.2.2.2.2.2.1 bt290.2.2.2.2.2.2.2.2.2.2.1 bt290.2.2.2.2.2.2.2.2.2.2.2.1 bt290.2.2.2.2.2.2.2.2.2.2.2.2.1 bt290.2.2.2.2.2.2.2.2.2.2.2.2.2.1 bt290.2.2.2.2.2.2.2.2.2.2.2.2.2.2.1 bt290.2.2.2.2.2.2.2.2.2.2.2.2.2.2.2).bind fun bt306 => ((bpdu_Of.f k bt306.1 bt306.2.1 bt306.2.2.1 bt306.2.2.2.1 bt306.2.2.2.2.1 bt306.2.2.2.2.2.1 bt306.2.2.2.2.2.2.1 bt306.2.2.2.2.2.2.2.1).bind fun bt316 => (if (bt230.1.size : Int) = 39 then (if bt230.2 = 0 then (if bt232.1.toList = ([66, 66, 3, 0, 0, 0, 128] : List UInt8) then (if bt232.2 = 0 then ((gangwaylaw09_rapid.f).bind fun bt334 => (if (bt234.1 == bt334.1 && (bt234.2.1 == bt334.2.1 && (bt234.2.2.1 == bt334.2.2.1 && (bt234.2.2.2.1 == bt334.2.2.2.1 && (bt234.2.2.2.2.1 == bt334.2.2.2.2.1 && (bt234.2.2.2.2.2.1 == bt334.2.2.2.2.2.1 && (bt234.2.2.2.2.2.2.1 == bt334.2.2.2.2.2.2.1 && (bt234.2.2.2.2.2.2.2.1 == bt334.2.2.2.2.2.2.2.1 && (bt234.2.2.2.2.2.2.2.2.1 == bt334.2.2.2.2.2.2.2.2.1 && (bt234.2.2.2.2.2.2.2.2.2.1 == bt334.2.2.2.2.2.2.2.2.2.1 && (bt234.2.2.2.2.2.2.2.2.2.2.1 == bt334.2.2.2.2.2.2.2.2.2.2.1 && (bt234.2.2.2.2.2.2.2.2.2.2.2.1 == bt334.2.2.2.2.2.2.2.2.2.2.2.1 && (bt234.2.2.2.2.2.2.2.2.2.2.2.2.1 == bt334.2.2.2.2.2.2.2.2.2.2.2.2.1 && (bt234.2.2.2.2.2.2.2.2.2.2.2.2.2.1 == bt334.2.2.2.2.2.2.2.2.2.2.2.2.2.1 && (bt234.2.2.2.2.2.2.2.2.2.2.2.2.2.2.1 == bt334.2.2.2.2.2.2.2.2.2.2.2.2.2.2.1 && (bt234.2.2.2.2.2.2.2.2.2.2.2.2.2.2.2.1 == bt334.2.2.2.2.2.2.2.2.2.2.2.2.2.2.2)))))))))))))))) = true then (if bt234.2.2.2.2.2.2.2.2.2.2.2.2.2.2.2.2 = 0 then (if bt252.2.2.2.2.2.2.2.2.2.2.2.2.2.2.2.2 = 90 then (if bt270.2.2.2.2.2.2.2.2.2.2.2.2.2.2.2.2 = 91 then (if bt288.2 = 91 then (if bt306.1 = 1652522221568 then (if bt306.2.2.2.2.2.2.2.2 = 0 then ((gangwaylaw09_rapid.f).bind fun bt350 => (if (bt316.1 == bt350.1 && (bt316.2.1 == bt350.2.1 && (bt316.2.2.1 == bt350.2.2.1 && (bt316.2.2.2.1 == bt350.2.2.2.1 && (bt316.2.2.2.2.1 == bt350.2.2.2.2.1 && (bt316.2.2.2.2.2.1 == bt350.2.2.2.2.2.1 && (bt316.2.2.2.2.2.2.1 == bt350.2.2.2.2.2.2.1 && (bt316.2.2.2.2.2.2.2.1 == bt350.2.2.2.2.2.2.2.1 && (bt316.2.2.2.2.2.2.2.2.1 == bt350.2.2.2.2.2.2.2.2.1 && (bt316.2.2.2.2.2.2.2.2.2.1 == bt350.2.2.2.2.2.2.2.2.2.1 && (bt316.2.2.2.2.2.2.2.2.2.2.1 == bt350.2.2.2.2.2.2.2.2.2.2.1 && (bt316.2.2.2.2.2.2.2.2.2.2.2.1 == bt350.2.2.2.2.2.2.2.2.2.2.2.1 && (bt316.2.2.2.2.2.2.2.2.2.2.2.2.1 == bt350.2.2.2.2.2.2.2.2.2.2.2.2.1 && (bt316.2.2.2.2.2.2.2.2.2.2.2.2.2.1 == bt350.2.2.2.2.2.2.2.2.2.2.2.2.2.1 && (bt316.2.2.2.2.2.2.2.2.2.2.2.2.2.2.1 == bt350.2.2.2.2.2.2.2.2.2.2.2.2.2.2.1 && (bt316.2.2.2.2.2.2.2.2.2.2.2.2.2.2.2.1 == bt350.2.2.2.2.2.2.2.2.2.2.2.2.2.2.2)))))))))))))))) = true then (some bt316.2.2.2.2.2.2.2.2.2.2.2.2.2.2.2.2) else (none))) else (none)) else (none)) else (none)) else (none)) else (none)) else (none)) else (none))) else (none)) else (none)) else (none)) else (none)))))))) else (none)) else (none))) else (none))))
theorem gangwaylaw09_fixed.mono : ∀ k, LeO (gangwaylaw09_fixed.f k ) (gangwaylaw09_fixed.f (k + 1) ) := by
 intro  k
 unfold gangwaylaw09_fixed.f
 repeat' first
   | (with_reducible exact bpdu_Build.mono _ _ _ _ _ _ _ _ _ _ _ _ _ _ _ _ _)
   | (with_reducible exact bpdu_Frame.mono _ _ _ _ _ _ _ _ _ _ _ _ _ _ _ _ _ _)
   | (with_reducible exact bpdu_Of.mono _ _ _ _ _ _ _ _ _)
   | (with_reducible exact bpdu_Parse.mono _ _)
   | (with_reducible exact LeO.refl _)
   | (with_reducible exact LeO.none _)
   | (with_reducible refine LeO.ite ?_ ?_)
   | (with_reducible refine LeO.bind ?_ (fun _ => ?_))
   | exact bpdu_Build.mono _ _ _ _ _ _ _ _ _ _ _ _ _ _ _ _ _
   | exact bpdu_Frame.mono _ _ _ _ _ _ _ _ _ _ _ _ _ _ _ _ _ _
   | exact bpdu_Of.mono _ _ _ _ _ _ _ _ _
   | exact bpdu_Parse.mono _ _
   | exact LeO.none _
   | refine LeO.ite ?_ ?_
   | refine LeO.bind ?_ (fun _ => ?_)
def gangwaylaw09_fixed.T9 : Bool × List (List Nat × List Nat) := (true, [([], []), ([0], [0]), ([1], [1]), ([2], [2]), ([3], [3]), ([4, 3], [3, 4]), ([3, 5], [3, 5]), ([6, 3], [6]), ([7], [7]), ([8, 7], [7, 8]), ([7, 9], [7, 9]), ([10, 7], [10]), ([11], [11]), ([12, 11], [11, 12]), ([11, 13], [11, 13]), ([14, 11], [14]), ([15], [15]), ([15, 15], [15]), ([16, 17, 15], [15, 16, 17]), ([15, 18], [15, 18]), ([19, 17], [19]), ([20], [20]), ([21, 20], [20, 21]), ([20, 22], [20, 22]), ([23, 20], [23]), ([24], [24]), ([25, 24], [24, 25]), ([24, 26], [24, 26]), ([27, 24], [27]), ([28], [28]), ([29, 28], [28, 29]), ([28, 30], [28, 30]), ([31, 28], [31]), ([32], [32]), ([33, 32], [32, 33]), ([32, 34], [32, 34]), ([35, 32], [35]), ([36], [36]), ([37, 36], [36, 37]), ([38, 36], [36, 38]), ([36, 39], [36, 39]), ([40, 36], [40]), ([41], [41]), ([42, 41], [41, 42]), ([41, 43], [41, 43]), ([44, 41], [44]), ([45], [45]), ([45, 45], [45]), ([46, 47, 45], [45, 46, 47]), ([45, 48], [45, 48]), ([49, 47], [49]), ([50], [50]), ([50, 51], [50, 51]), ([52, 50, 0, 1, 2, 3, 4, 5, 6, 7, 8, 9, 10, 11, 12, 13, 14, 15, 16, 17, 18, 19, 20, 21, 22, 23, 24, 25, 26, 27, 28, 29, 30, 31, 32, 33, 34, 35, 36, 37, 38, 39, 40, 41, 42, 43, 44, 45, 46, 47, 48, 49, 50, 51, 52], [52])])
def gangwaylaw09_fixed.B9 : List Nat := [0, 1, 3, 7, 15, 31, 63, 127, 255, 511, 1023, 2047, 4095, 8191, 16383, 32767, 65535, 65535, 262143, 524287, 1048575, 2097151, 4194303, 8388607, 16777215, 33554431, 67108863, 134217727, 268435455, 536870911, 1073741823, 2147483647, 4294967295, 8589934591, 17179869183, 34359738367, 68719476735, 137438953471, 274877906943, 549755813887, 1099511627775, 2199023255551, 4398046511103, 8796093022207, 17592186044415, 35184372088831, 70368744177663, 70368744177663, 281474976710655, 562949953421311, 1125899906842623, 2251799813685247, 4503599627370495, 9007199254740991]
theorem gangwaylaw09_fixed.tab9 : rtab .any (opsOf Tryd.f10 9) = gangwaylaw09_fixed.T9 := by kernel_rfl
theorem gangwaylaw09_fixed.bits9 : waitsOk gangwaylaw09_fixed.T9.2 gangwaylaw09_fixed.B9 = true := by kernel_rfl
theorem z14_0 {p : Prop} (h : p := by
 simp only [Act.put, List.setIfInBounds_toArray, List.set_cons_zero, List.set_cons_succ, i64_w, i32_w]
 rfl) : p := h
theorem z14_1 {p : Prop} (h : p := by
 rintro w' ⟨sz0, sz1, sz2, sz3, sz4, sz5, sz6, sz7, sz8, sz9, sz10, sz11, sz12, sz13, sz14, sz15, sz16, sz17, sz18, sz19, sz20, sz21, sz22, sz23, sz24, sz25, sz26, sz27, sz28, sz29, sz30, sz31, sz32, sz33, sz34, sz35, sz36, sz37, sz38, sz39⟩
 go_simp
 with_reducible rfl) : p := h
set_option maxHeartbeats 8000000 in
set_option maxRecDepth 100000 in
theorem gangwaylaw09_fixed.calls (k : Nat)  (r : Bool) (w : World) (h : gangwaylaw09_fixed.f k  = some r) :
  Calls Tryd.prog 10 #[] w fun e w' => e = .returned (.bool r) ∧ Below w.heap.size w w' := by
 have hu24 := Tryd.underlying24
 have hu37 := Tryd.underlying37
 have HB := Aside0.mk (Below.refl w.heap.size w)
 have H : ((gangwaylaw09_rapid.f).bind fun bt214 => ((bpdu_Build.f k bt214.1 bt214.2.1 bt214.2.2.1 bt214.2.2.2.1 bt214.2.2.2.2.1 bt214.2.2.2.2.2.1 bt214.2.2.2.2.2.2.1 bt214.2.2.2.2.2.2.2.1 bt214.2.2.2.2.2.2.2.2.1 bt214.2.2.2.2.2.2.2.2.2.1 bt214.2.2.2.2.2.2.2.2.2.2.1 bt214.2.2.2.2.2.2.2.2.2.2.2.1 bt214.2.2.2.2.2.2.2.2.2.2.2.2.1 bt214.2.2.2.2.2.2.2.2.2.2.2.2.2.1 bt214.2.2.2.2.2.2.2.2.2.2.2.2.2.2.1 bt214.2.2.2.2.2.2.2.2.2.2.2.2.2.2.2).bind fun bt230 => ((bpdu_Build.f k 128 false false false false false false 0 0 0 0 0 0 0 0 0).bind fun bt232 => (if bt230.1.size + 4 ≤ 9223372036854775807 then ((bpdu_Parse.f k (bt230.1 ++ (⟨#[109, 111, 114, 101]⟩ : ByteArray))).bind fun bt234 => (if 0 ≤ (mn (bt230.1.size : Int) 38) then (if (mn (bt230.1.size : Int) 38) ≤ (bt230.1.size : Int) then ((bpdu_Parse.f k (bt230.1.extract 0 ((mn (bt230.1.size : Int) 38) : Int).toNat)).bind fun bt252 => ((bpdu_Parse.f k (⟨#[66, 66, 3, 0, 1, 0, 128]⟩ : ByteArray)).bind fun bt270 => ((bpdu_Build.f k 0 false true false false false false 0 0 0 0 0 0 0 0 0).bind fun bt288 => ((gangwaylaw09_rapid.f).bind fun bt290 => ((bpdu_Frame.f k 2 bt290.1 bt290.2.1 bt290.2.2.1 bt290.2.2.2.1 bt290.2.2.2.2.1 bt290.2.2.2.2.2.1 bt290.2.2.2.2.2.2.1 bt290.2.2.2.2.2.2.2.1 bt290.2.2.2.2.2.2.2.2.1 bt290.2.2.2.2.2.2.2.2.2.1 bt290.2.2.2.2.2.2.2.2.2.2.1 bt290.2.2.2.2.2.2.2.2.2.2.2.1 bt290.2.2.2.2.2.2.2.2.2.2.2.2.1 bt290.2.2.2.2.2.2.2.2.2.2.2.2.2.1 bt290.2.2.2.2.2.2.2.2.2.2.2.2.2.2.1 bt290.2.2.2.2.2.2.2.2.2.2.2.2.2.2.2).bind fun bt306 => ((bpdu_Of.f k bt306.1 bt306.2.1 bt306.2.2.1 bt306.2.2.2.1 bt306.2.2.2.2.1 bt306.2.2.2.2.2.1 bt306.2.2.2.2.2.2.1 bt306.2.2.2.2.2.2.2.1).bind fun bt316 => (if (bt230.1.size : Int) = 39 then (if bt230.2 = 0 then (if bt232.1.toList = ([66, 66, 3, 0, 0, 0, 128] : List UInt8) then (if bt232.2 = 0 then ((gangwaylaw09_rapid.f).bind fun bt334 => (if (bt234.1 == bt334.1 && (bt234.2.1 == bt334.2.1 && (bt234.2.2.1 == bt334.2.2.1 && (bt234.2.2.2.1 == bt334.2.2.2.1 && (bt234.2.2.2.2.1 == bt334.2.2.2.2.1 && (bt234.2.2.2.2.2.1 == bt334.2.2.2.2.2.1 && (bt234.2.2.2.2.2.2.1 == bt334.2.2.2.2.2.2.1 && (bt234.2.2.2.2.2.2.2.1 == bt334.2.2.2.2.2.2.2.1 && (bt234.2.2.2.2.2.2.2.2.1 == bt334.2.2.2.2.2.2.2.2.1 && (bt234.2.2.2.2.2.2.2.2.2.1 == bt334.2.2.2.2.2.2.2.2.2.1 && (bt234.2.2.2.2.2.2.2.2.2.2.1 == bt334.2.2.2.2.2.2.2.2.2.2.1 && (bt234.2.2.2.2.2.2.2.2.2.2.2.1 == bt334.2.2.2.2.2.2.2.2.2.2.2.1 && (bt234.2.2.2.2.2.2.2.2.2.2.2.2.1 == bt334.2.2.2.2.2.2.2.2.2.2.2.2.1 && (bt234.2.2.2.2.2.2.2.2.2.2.2.2.2.1 == bt334.2.2.2.2.2.2.2.2.2.2.2.2.2.1 && (bt234.2.2.2.2.2.2.2.2.2.2.2.2.2.2.1 == bt334.2.2.2.2.2.2.2.2.2.2.2.2.2.2.1 && (bt234.2.2.2.2.2.2.2.2.2.2.2.2.2.2.2.1 == bt334.2.2.2.2.2.2.2.2.2.2.2.2.2.2.2)))))))))))))))) = true then (if bt234.2.2.2.2.2.2.2.2.2.2.2.2.2.2.2.2 = 0 then (if bt252.2.2.2.2.2.2.2.2.2.2.2.2.2.2.2.2 = 90 then (if bt270.2.2.2.2.2.2.2.2.2.2.2.2.2.2.2.2 = 91 then (if bt288.2 = 91 then (if bt306.1 = 1652522221568 then (if bt306.2.2.2.2.2.2.2.2 = 0 then ((gangwaylaw09_rapid.f).bind fun bt350 => (if (bt316.1 == bt350.1 && (bt316.2.1 == bt350.2.1 && (bt316.2.2.1 == bt350.2.2.1 && (bt316.2.2.2.1 == bt350.2.2.2.1 && (bt316.2.2.2.2.1 == bt350.2.2.2.2.1 && (bt316.2.2.2.2.2.1 == bt350.2.2.2.2.2.1 && (bt316.2.2.2.2.2.2.1 == bt350.2.2.2.2.2.2.1 && (bt316.2.2.2.2.2.2.2.1 == bt350.2.2.2.2.2.2.2.1 && (bt316.2.2.2.2.2.2.2.2.1 == bt350.2.2.2.2.2.2.2.2.1 && (bt316.2.2.2.2.2.2.2.2.2.1 == bt350.2.2.2.2.2.2.2.2.2.1 && (bt316.2.2.2.2.2.2.2.2.2.2.1 == bt350.2.2.2.2.2.2.2.2.2.2.1 && (bt316.2.2.2.2.2.2.2.2.2.2.2.1 == bt350.2.2.2.2.2.2.2.2.2.2.2.1 && (bt316.2.2.2.2.2.2.2.2.2.2.2.2.1 == bt350.2.2.2.2.2.2.2.2.2.2.2.2.1 && (bt316.2.2.2.2.2.2.2.2.2.2.2.2.2.1 == bt350.2.2.2.2.2.2.2.2.2.2.2.2.2.1 && (bt316.2.2.2.2.2.2.2.2.2.2.2.2.2.2.1 == bt350.2.2.2.2.2.2.2.2.2.2.2.2.2.2.1 && (bt316.2.2.2.2.2.2.2.2.2.2.2.2.2.2.2.1 == bt350.2.2.2.2.2.2.2.2.2.2.2.2.2.2.2)))))))))))))))) = true then (some bt316.2.2.2.2.2.2.2.2.2.2.2.2.2.2.2.2) else (none))) else (none)) else (none)) else (none)) else (none)) else (none)) else (none)) else (none))) else (none)) else (none)) else (none)) else (none)))))))) else (none)) else (none))) else (none))))) = some r := h
 clear h
 replace H := Option.bind_eq_some_iff.mp H
 obtain ⟨⟨t214, t215, t216, t217, t218, t219, t220, t221, t222, t223, t224, t225, t226, t227, t228, t229⟩, A10, H⟩ := H
 try dsimp only at H
 have A1 := Aside0.mk A10
 clear A10
 replace H := Option.bind_eq_some_iff.mp H
 obtain ⟨⟨t230, t231⟩, A20, H⟩ := H
 try dsimp only at H
 have A2 := Aside0.mk A20
 clear A20
 replace H := Option.bind_eq_some_iff.mp H
 obtain ⟨⟨t232, t233⟩, A30, H⟩ := H
 try dsimp only at H
 have A3 := Aside0.mk A30
 clear A30
 by_cases c4 : t230.size + 4 ≤ 9223372036854775807
 ·rw [if_pos c4] at H
  have c4b0 := eq_true c4
  have c4b1 : decide (t230.size + 4 ≤ 9223372036854775807) = true := decide_eq_true c4
  try have c4b2 : (9223372036854775807 < t230.size + 4) = False := eq_false (Nat.not_lt.2 c4)
  replace H := Option.bind_eq_some_iff.mp H
  obtain ⟨⟨t234, t235, t236, t237, t238, t239, t240, t241, t242, t243, t244, t245, t246, t247, t248, t249, t250⟩, A50, H⟩ := H
  try dsimp only at H
  have A5 := Aside0.mk A50
  clear A50
  obtain ⟨ji6, hji6⟩ : ∃ j_ : Int, (mn (t230.size : Int) 38) = j_ := ⟨_, rfl⟩
  replace H : (if 0 ≤ (ji6) then (if (ji6) ≤ (t230.size : Int) then ((bpdu_Parse.f k (t230.extract 0 ((ji6) : Int).toNat)).bind fun bt252 => ((bpdu_Parse.f k (⟨#[66, 66, 3, 0, 1, 0, 128]⟩ : ByteArray)).bind fun bt270 => ((bpdu_Build.f k 0 false true false false false false 0 0 0 0 0 0 0 0 0).bind fun bt288 => ((gangwaylaw09_rapid.f).bind fun bt290 => ((bpdu_Frame.f k 2 bt290.1 bt290.2.1 bt290.2.2.1 bt290.2.2.2.1 bt290.2.2.2.2.1 bt290.2.2.2.2.2.1 bt290.2.2.2.2.2.2.1 bt290.2.2.2.2.2.2.2.1 bt290.2.2.2.2.2.2.2.2.1 bt290.2.2.2.2.2.2.2.2.2.1 bt290.2.2.2.2.2.2.2.2.2.2.1 bt290.2.2.2.2.2.2.2.2.2.2.2.1 bt290.2.2.2.2.2.2.2.2.2.2.2.2.1 bt290.2.2.2.2.2.2.2.2.2.2.2.2.2.1 bt290.2.2.2.2.2.2.2.2.2.2.2.2.2.2.1 bt290.2.2.2.2.2.2.2.2.2.2.2.2.2.2.2).bind fun bt306 => ((bpdu_Of.f k bt306.1 bt306.2.1 bt306.2.2.1 bt306.2.2.2.1 bt306.2.2.2.2.1 bt306.2.2.2.2.2.1 bt306.2.2.2.2.2.2.1 bt306.2.2.2.2.2.2.2.1).bind fun bt316 => (if (t230.size : Int) = 39 then (if t231 = 0 then (if t232.toList = ([66, 66, 3, 0, 0, 0, 128] : List UInt8) then (if t233 = 0 then ((gangwaylaw09_rapid.f).bind fun bt334 => (if (t234 == bt334.1 && (t235 == bt334.2.1 && (t236 == bt334.2.2.1 && (t237 == bt334.2.2.2.1 && (t238 == bt334.2.2.2.2.1 && (t239 == bt334.2.2.2.2.2.1 && (t240 == bt334.2.2.2.2.2.2.1 && (t241 == bt334.2.2.2.2.2.2.2.1 && (t242 == bt334.2.2.2.2.2.2.2.2.1 && (t243 == bt334.2.2.2.2.2.2.2.2.2.1 && (t244 == bt334.2.2.2.2.2.2.2.2.2.2.1 && (t245 == bt334.2.2.2.2.2.2.2.2.2.2.2.1 && (t246 == bt334.2.2.2.2.2.2.2.2.2.2.2.2.1 && (t247 == bt334.2.2.2.2.2.2.2.2.2.2.2.2.2.1 && (t248 == bt334.2.2.2.2.2.2.2.2.2.2.2.2.2.2.1 && (t249 == bt334.2.2.2.2.2.2.2.2.2.2.2.2.2.2.2)))))))))))))))) = true then (if t250 = 0 then (if bt252.2.2.2.2.2.2.2.2.2.2.2.2.2.2.2.2 = 90 then (if bt270.2.2.2.2.2.2.2.2.2.2.2.2.2.2.2.2 = 91 then (if bt288.2 = 91 then (if bt306.1 = 1652522221568 then (if bt306.2.2.2.2.2.2.2.2 = 0 then ((gangwaylaw09_rapid.f).bind fun bt350 => (if (bt316.1 == bt350.1 && (bt316.2.1 == bt350.2.1 && (bt316.2.2.1 == bt350.2.2.1 && (bt316.2.2.2.1 == bt350.2.2.2.1 && (bt316.2.2.2.2.1 == bt350.2.2.2.2.1 && (bt316.2.2.2.2.2.1 == bt350.2.2.2.2.2.1 && (bt316.2.2.2.2.2.2.1 == bt350.2.2.2.2.2.2.1 && (bt316.2.2.2.2.2.2.2.1 == bt350.2.2.2.2.2.2.2.1 && (bt316.2.2.2.2.2.2.2.2.1 == bt350.2.2.2.2.2.2.2.2.1 && (bt316.2.2.2.2.2.2.2.2.2.1 == bt350.2.2.2.2.2.2.2.2.2.1 && (bt316.2.2.2.2.2.2.2.2.2.2.1 == bt350.2.2.2.2.2.2.2.2.2.2.1 && (bt316.2.2.2.2.2.2.2.2.2.2.2.1 == bt350.2.2.2.2.2.2.2.2.2.2.2.1 && (bt316.2.2.2.2.2.2.2.2.2.2.2.2.1 == bt350.2.2.2.2.2.2.2.2.2.2.2.2.1 && (bt316.2.2.2.2.2.2.2.2.2.2.2.2.2.1 == bt350.2.2.2.2.2.2.2.2.2.2.2.2.2.1 && (bt316.2.2.2.2.2.2.2.2.2.2.2.2.2.2.1 == bt350.2.2.2.2.2.2.2.2.2.2.2.2.2.2.1 && (bt316.2.2.2.2.2.2.2.2.2.2.2.2.2.2.2.1 == bt350.2.2.2.2.2.2.2.2.2.2.2.2.2.2.2)))))))))))))))) = true then (some bt316.2.2.2.2.2.2.2.2.2.2.2.2.2.2.2.2) else (none))) else (none)) else (none)) else (none)) else (none)) else (none)) else (none)) else (none))) else (none)) else (none)) else (none)) else (none)))))))) else (none)) else (none)) = some r := by first | (rw [hji6] at H; exact H) | (simp only [hji6] at H ⊢; exact H)
  (try rw [hji6] at A1)
  (try rw [hji6] at A2)
  (try rw [hji6] at A3)
  (try rw [hji6] at A5)
  (try (have hji6h : ji6 ≤ 38 := by (rw [← hji6]; unfold mn; (repeat' split) <;> omega)))
  (try (have hji6g : ji6 ≤ 64 := by omega))
  (try (have hji6l : 0 ≤ ji6 := by (rw [← hji6]; unfold mn; (repeat' split) <;> omega)))
  (try (have hji6m : 0 ≤ ji6 := by omega))
  have hji6_ : (if 38 < (t230.size : Int) then 38 else (t230.size : Int)) = ji6 := hji6
  by_cases c7 : 0 ≤ (ji6)
  ·rw [if_pos c7] at H
   have c7b0 := eq_true c7
   have c7b1 : decide (0 ≤ (ji6)) = true := decide_eq_true c7
   clear c7
   by_cases c8 : (ji6) ≤ (t230.size : Int)
   ·rw [if_pos c8] at H
    have c8b0 := eq_true c8
    have c8b1 : decide ((ji6) ≤ (t230.size : Int)) = true := decide_eq_true c8
    clear c8
    replace H := Option.bind_eq_some_iff.mp H
    obtain ⟨⟨t252, t253, t254, t255, t256, t257, t258, t259, t260, t261, t262, t263, t264, t265, t266, t267, t268⟩, A90, H⟩ := H
    try dsimp only at H
    have A9 := Aside0.mk A90
    clear A90
    replace H := Option.bind_eq_some_iff.mp H
    obtain ⟨⟨t270, t271, t272, t273, t274, t275, t276, t277, t278, t279, t280, t281, t282, t283, t284, t285, t286⟩, A100, H⟩ := H
    try dsimp only at H
    have A10 := Aside0.mk A100
    clear A100
    replace H := Option.bind_eq_some_iff.mp H
    obtain ⟨⟨t288, t289⟩, A110, H⟩ := H
    try dsimp only at H
    have A11 := Aside0.mk A110
    clear A110
    replace H := Option.bind_eq_some_iff.mp H
    obtain ⟨⟨t290, t291, t292, t293, t294, t295, t296, t297, t298, t299, t300, t301, t302, t303, t304, t305⟩, A120, H⟩ := H
    try dsimp only at H
    have A12 := Aside0.mk A120
    clear A120
    replace H := Option.bind_eq_some_iff.mp H
    obtain ⟨⟨t306, t307, t308, t309, t310, t311, t312, t313, t314⟩, A130, H⟩ := H
    try dsimp only at H
    have A13 := Aside0.mk A130
    clear A130
    replace H := Option.bind_eq_some_iff.mp H
    obtain ⟨⟨t316, t317, t318, t319, t320, t321, t322, t323, t324, t325, t326, t327, t328, t329, t330, t331, t332⟩, A140, H⟩ := H
    try dsimp only at H
    have A14 := Aside0.mk A140
    clear A140
    by_cases c15 : (t230.size : Int) = 39
    ·rw [if_pos c15] at H
     have c15b0 : ((t230.size : Int) == 39) = true := beq_iff_eq.mpr c15
     have c15b1 : ((t230.size : Int) != 39) = false := bne_eq_false_iff_eq.mpr c15
     clear c15
     by_cases c16 : t231 = 0
     ·rw [if_pos c16] at H
      have c16b0 : (t231 == 0) = true := beq_iff_eq.mpr c16
      have c16b1 : (t231 != 0) = false := bne_eq_false_iff_eq.mpr c16
      clear c16
      by_cases c17 : t232.toList = ([66, 66, 3, 0, 0, 0, 128] : List UInt8)
      ·rw [if_pos c17] at H
       have c17b0 : (t232.toList == ([66, 66, 3, 0, 0, 0, 128] : List UInt8)) = true := beq_iff_eq.mpr c17
       have c17b1 : (t232.toList != ([66, 66, 3, 0, 0, 0, 128] : List UInt8)) = false := bne_eq_false_iff_eq.mpr c17
       clear c17
       by_cases c18 : t233 = 0
       ·rw [if_pos c18] at H
        have c18b0 : (t233 == 0) = true := beq_iff_eq.mpr c18
        have c18b1 : (t233 != 0) = false := bne_eq_false_iff_eq.mpr c18
        clear c18
        replace H := Option.bind_eq_some_iff.mp H
        obtain ⟨⟨t334, t335, t336, t337, t338, t339, t340, t341, t342, t343, t344, t345, t346, t347, t348, t349⟩, A190, H⟩ := H
        try dsimp only at H
        have A19 := Aside0.mk A190
        clear A190
        by_cases c20 : (t234 == t334 && (t235 == t335 && (t236 == t336 && (t237 == t337 && (t238 == t338 && (t239 == t339 && (t240 == t340 && (t241 == t341 && (t242 == t342 && (t243 == t343 && (t244 == t344 && (t245 == t345 && (t246 == t346 && (t247 == t347 && (t248 == t348 && (t249 == t349)))))))))))))))) = true
        ·rw [if_pos c20] at H
         have c20b0 : (t234 == t334 && (t235 == t335 && (t236 == t336 && (t237 == t337 && (t238 == t338 && (t239 == t339 && (t240 == t340 && (t241 == t341 && (t242 == t342 && (t243 == t343 && (t244 == t344 && (t245 == t345 && (t246 == t346 && (t247 == t347 && (t248 == t348 && (t249 == t349)))))))))))))))) = true := c20
         clear c20
         by_cases c21 : t250 = 0
         ·rw [if_pos c21] at H
          have c21b0 : (t250 == 0) = true := beq_iff_eq.mpr c21
          have c21b1 : (t250 != 0) = false := bne_eq_false_iff_eq.mpr c21
          clear c21
          by_cases c22 : t268 = 90
          ·rw [if_pos c22] at H
           have c22b0 : (t268 == 90) = true := beq_iff_eq.mpr c22
           have c22b1 : (t268 != 90) = false := bne_eq_false_iff_eq.mpr c22
           clear c22
           by_cases c23 : t286 = 91
           ·rw [if_pos c23] at H
            have c23b0 : (t286 == 91) = true := beq_iff_eq.mpr c23
            have c23b1 : (t286 != 91) = false := bne_eq_false_iff_eq.mpr c23
            clear c23
            by_cases c24 : t289 = 91
            ·rw [if_pos c24] at H
             have c24b0 : (t289 == 91) = true := beq_iff_eq.mpr c24
             have c24b1 : (t289 != 91) = false := bne_eq_false_iff_eq.mpr c24
             clear c24
             by_cases c25 : t306 = 1652522221568
             ·rw [if_pos c25] at H
              have c25b0 : (t306 == 1652522221568) = true := beq_iff_eq.mpr c25
              have c25b1 : (t306 != 1652522221568) = false := bne_eq_false_iff_eq.mpr c25
              clear c25
              by_cases c26 : t314 = 0
              ·rw [if_pos c26] at H
               have c26b0 : (t314 == 0) = true := beq_iff_eq.mpr c26
               have c26b1 : (t314 != 0) = false := bne_eq_false_iff_eq.mpr c26
               clear c26
               replace H := Option.bind_eq_some_iff.mp H
               obtain ⟨⟨t350, t351, t352, t353, t354, t355, t356, t357, t358, t359, t360, t361, t362, t363, t364, t365⟩, A270, H⟩ := H
               try dsimp only at H
               have A27 := Aside0.mk A270
               clear A270
               by_cases c28 : (t316 == t350 && (t317 == t351 && (t318 == t352 && (t319 == t353 && (t320 == t354 && (t321 == t355 && (t322 == t356 && (t323 == t357 && (t324 == t358 && (t325 == t359 && (t326 == t360 && (t327 == t361 && (t328 == t362 && (t329 == t363 && (t330 == t364 && (t331 == t365)))))))))))))))) = true
               ·rw [if_pos c28] at H
                have c28b0 : (t316 == t350 && (t317 == t351 && (t318 == t352 && (t319 == t353 && (t320 == t354 && (t321 == t355 && (t322 == t356 && (t323 == t357 && (t324 == t358 && (t325 == t359 && (t326 == t360 && (t327 == t361 && (t328 == t362 && (t329 == t363 && (t330 == t364 && (t331 == t365)))))))))))))))) = true := c28
                clear c28
                obtain rfl := Option.some.inj H
                go_enter Tryd.func10, Tryd.ntmps10
                try go_wp2_with (first | ((with_reducible refine gate_st (ty := 24) rfl ?_); refine storeC16 rfl rfl rfl rfl rfl qcj qo qf rfl ?_) | ((with_reducible refine gate_ld (ty := 24) rfl ?_); (try (with_reducible refine gate_gd rfl ?_; refine gate_guard qc8 ?_; dsimp only)); refine load_st rfl rfl rfl qcj qo Tryd.underlying24 rfl qf ?_; (try simp only [Act.put, List.setIfInBounds_toArray, List.set_cons_zero, List.set_cons_succ])) | ((with_reducible refine gate_eql (ty := 24) rfl ?_); (try (with_reducible refine gate_gd rfl ?_; refine gate_guard qc8 ?_; dsimp only)); refine eql24 rfl rfl rfl rfl true qn ?_; (try simp only [Act.put, List.setIfInBounds_toArray, List.set_cons_zero, List.set_cons_succ])) | ((with_reducible refine gate_eql (ty := 24) rfl ?_); (try (with_reducible refine gate_gd rfl ?_; refine gate_guard qc8 ?_; dsimp only)); refine eql24 rfl rfl rfl rfl false qn ?_; (try simp only [Act.put, List.setIfInBounds_toArray, List.set_cons_zero, List.set_cons_succ])) | ((with_reducible refine gate_st (ty := 37) rfl ?_); refine storeC8 rfl rfl rfl rfl rfl qcj qo qf rfl ?_) | ((with_reducible refine gate_ld (ty := 37) rfl ?_); (try (with_reducible refine gate_gd rfl ?_; refine gate_guard qc8 ?_; dsimp only)); refine load_st rfl rfl rfl qcj qo Tryd.underlying37 rfl qf ?_; (try simp only [Act.put, List.setIfInBounds_toArray, List.set_cons_zero, List.set_cons_succ])) | ((with_reducible refine gate_callee (f := 23) rfl ?_); refine goesL_ (some 18) rfl rfl Tryd.func23 qf rfl #[] rfl qbi ?_; (with_reducible refine (gangwaylaw09_rapid.calls  t214 t215 t216 t217 t218 t219 t220 t221 t222 t223 t224 t225 t226 t227 t228 t229 _ A1.out).mono ?_); rintro e w29 ⟨rfl, hb⟩; refine ⟨_, rfl, ?_⟩; have n0_ := Aside0.mk (below_step qbh hb); clear HB; have HB := n0_; clear n0_; (try clear hb); (try clear hb2); (try clear hk); (try clear hi)) | ((with_reducible refine gate_callee (f := 8) rfl ?_); refine goesL_ (some 19) rfl rfl Tryd.func8 qf rfl #[.agg #[.int .i64 t214, .bool t215, .bool t216, .bool t217, .bool t218, .bool t219, .bool t220, .int .i64 t221, .int .u64 t222, .int .i64 t223, .int .u64 t224, .int .i64 t225, .int .i64 t226, .int .i64 t227, .int .i64 t228, .int .i64 t229]] rfl qbi ?_; (with_reducible refine (bpdu_Build.calls k t214 t215 t216 t217 t218 t219 t220 t221 t222 t223 t224 t225 t226 t227 t228 t229 t230 t231 _ A2.out).mono ?_); rintro e w30 ⟨rfl, hb⟩; refine ⟨_, rfl, ?_⟩; have n0_ := Aside0.mk (below_step qbh hb); clear HB; have HB := n0_; clear n0_; (try clear hb); (try clear hb2); (try clear hk); (try clear hi)) | ((with_reducible refine gate_callee (f := 8) rfl ?_); refine goesL_ (some 24) rfl rfl Tryd.func8 qf rfl #[.agg #[.int .i64 128, .bool false, .bool false, .bool false, .bool false, .bool false, .bool false, .int .i64 0, .int .u64 0, .int .i64 0, .int .u64 0, .int .i64 0, .int .i64 0, .int .i64 0, .int .i64 0, .int .i64 0]] rfl qbi ?_; (with_reducible refine (bpdu_Build.calls k 128 false false false false false false 0 0 0 0 0 0 0 0 0 t232 t233 _ A3.out).mono ?_); rintro e w31 ⟨rfl, hb⟩; refine ⟨_, rfl, ?_⟩; have n0_ := Aside0.mk (below_step qbh hb); clear HB; have HB := n0_; clear n0_; (try clear hb); (try clear hb2); (try clear hk); (try clear hi)) | ((with_reducible refine gate_callee (f := 13) rfl ?_); refine goesL_ (some 30) rfl rfl Tryd.func13 qf rfl #[.string (t230 ++ (⟨#[109, 111, 114, 101]⟩ : ByteArray))] rfl qbi ?_; (with_reducible refine (bpdu_Parse.calls k (t230 ++ (⟨#[109, 111, 114, 101]⟩ : ByteArray)) t234 t235 t236 t237 t238 t239 t240 t241 t242 t243 t244 t245 t246 t247 t248 t249 t250 _ A5.out).mono ?_); rintro e w32 ⟨rfl, hb⟩; refine ⟨_, rfl, ?_⟩; have n0_ := Aside0.mk (below_step qbh hb); clear HB; have HB := n0_; clear n0_; (try clear hb); (try clear hb2); (try clear hk); (try clear hi)) | ((with_reducible refine gate_dst (N := 5) rfl ?_); refine box_event ?hg (N := 5) ?hd (cs := #[.int .i64 0, .bool false, .bool false, .bool false, .bool false, .bool false, .bool false, .int .i64 0, .int .u64 0, .int .i64 0, .int .u64 0, .int .i64 0, .int .i64 0, .int .i64 0, .int .i64 0, .int .i64 0]) (t := 24) ?hr ?_; (case hd => rfl); (case hg => rfl); (case hr => first | (go_simp; done) | (go_simp; rfl)); intro gb251 hg w33 hbox hb; have n0_ := Aside0.mk (below_step qbh hb); have n1_ := Aside0.mk (hbox); have n2_ := Aside0.mk ((qcq : w.heap.size ≤ gb251)); have n3_ := Aside0.mk ((qcq : w.heap.size ≤ gb251)); clear HB; have HB := n0_; have BK251 := n1_; have GW251 := n2_; have GE251 := n3_; clear n0_ n1_ n2_ n3_; clear hb hbox hg; obtain ⟨hcz34_0, hcz34_1, hcz34_2, hcz34_3, hcz34_4, hcz34_5, hcz34_6, hcz34_7, hcz34_8, hcz34_9, hcz34_10, hcz34_11, hcz34_12, hcz34_13, hcz34_14, hcz34_15⟩ := cells16 BK251.out; obtain ⟨hfz34_0, hfz34_1, hfz34_2, hfz34_3, hfz34_4, hfz34_5, hfz34_6, hfz34_7, hfz34_8, hfz34_9, hfz34_10, hfz34_11, hfz34_12, hfz34_13, hfz34_14, hfz34_15⟩ := frozen16 BK251.out) | (obtain ⟨w33f, hgw_⟩ : ∃ y, y = (World.setCell (World.setCell (World.setCell (World.setCell w33 ⟨gb251, 0, none⟩ (.int .i64 t234)) ⟨gb251, 1, none⟩ (.bool t235)) ⟨gb251, 2, none⟩ (.bool t236)) ⟨gb251, 3, none⟩ (.bool t237)) := ⟨_, rfl⟩; rw [← hgw_]; have m0_ := Aside0.mk (show w33f.heap[gb251]? = some (.cells #[.int .i64 t234, .bool t235, .bool t236, .bool t237, .bool false, .bool false, .bool false, .int .i64 0, .int .u64 0, .int .i64 0, .int .u64 0, .int .i64 0, .int .i64 0, .int .i64 0, .int .i64 0, .int .i64 0] 24 (0, 0)) from (by rw [hgw_]; exact put16_0_4 qt)); have mb_ := Aside0.mk (show Below w.heap.size w w33f from (by rw [hgw_]; exact qbr)); clear BK251; have BK251 := m0_; clear m0_; clear HB; have HB := mb_; clear mb_; clear hgw_; have hcf251_0 : w33f.cell? ⟨gb251, 0, none⟩ = some (.int .i64 t234) := (blk_cell BK251.out 0).trans rfl; have hcf251_1 : w33f.cell? ⟨gb251, 1, none⟩ = some (.bool t235) := (blk_cell BK251.out 1).trans rfl; have hcf251_2 : w33f.cell? ⟨gb251, 2, none⟩ = some (.bool t236) := (blk_cell BK251.out 2).trans rfl; have hcf251_3 : w33f.cell? ⟨gb251, 3, none⟩ = some (.bool t237) := (blk_cell BK251.out 3).trans rfl; have hcf251_4 : w33f.cell? ⟨gb251, 4, none⟩ = some (.bool false) := (blk_cell BK251.out 4).trans rfl; have hcf251_5 : w33f.cell? ⟨gb251, 5, none⟩ = some (.bool false) := (blk_cell BK251.out 5).trans rfl; have hcf251_6 : w33f.cell? ⟨gb251, 6, none⟩ = some (.bool false) := (blk_cell BK251.out 6).trans rfl; have hcf251_7 : w33f.cell? ⟨gb251, 7, none⟩ = some (.int .i64 0) := (blk_cell BK251.out 7).trans rfl; have hcf251_8 : w33f.cell? ⟨gb251, 8, none⟩ = some (.int .u64 0) := (blk_cell BK251.out 8).trans rfl; have hcf251_9 : w33f.cell? ⟨gb251, 9, none⟩ = some (.int .i64 0) := (blk_cell BK251.out 9).trans rfl; have hcf251_10 : w33f.cell? ⟨gb251, 10, none⟩ = some (.int .u64 0) := (blk_cell BK251.out 10).trans rfl; have hcf251_11 : w33f.cell? ⟨gb251, 11, none⟩ = some (.int .i64 0) := (blk_cell BK251.out 11).trans rfl; have hcf251_12 : w33f.cell? ⟨gb251, 12, none⟩ = some (.int .i64 0) := (blk_cell BK251.out 12).trans rfl; have hcf251_13 : w33f.cell? ⟨gb251, 13, none⟩ = some (.int .i64 0) := (blk_cell BK251.out 13).trans rfl; have hcf251_14 : w33f.cell? ⟨gb251, 14, none⟩ = some (.int .i64 0) := (blk_cell BK251.out 14).trans rfl; have hcf251_15 : w33f.cell? ⟨gb251, 15, none⟩ = some (.int .i64 0) := (blk_cell BK251.out 15).trans rfl; have hff251_0 := blk_frozen BK251.out 0; have hff251_1 := blk_frozen BK251.out 1; have hff251_2 := blk_frozen BK251.out 2; have hff251_3 := blk_frozen BK251.out 3; have hff251_4 := blk_frozen BK251.out 4; have hff251_5 := blk_frozen BK251.out 5; have hff251_6 := blk_frozen BK251.out 6; have hff251_7 := blk_frozen BK251.out 7; have hff251_8 := blk_frozen BK251.out 8; have hff251_9 := blk_frozen BK251.out 9; have hff251_10 := blk_frozen BK251.out 10; have hff251_11 := blk_frozen BK251.out 11; have hff251_12 := blk_frozen BK251.out 12; have hff251_13 := blk_frozen BK251.out 13; have hff251_14 := blk_frozen BK251.out 14; have hff251_15 := blk_frozen BK251.out 15) | ((with_reducible refine gate_callee (f := 13) rfl ?_); refine goesL_ (some 39) rfl rfl Tryd.func13 qf rfl #[.string (t230.extract 0 ((ji6) : Int).toNat)] rfl (by (try simp only [List.map_toArray, List.map_cons, List.map_nil]); first | done | (simp only [hji6]; rfl) | rfl | (simp only [List.length_drop, List.length_take]; rfl)) ?_; (with_reducible refine (bpdu_Parse.calls k (t230.extract 0 ((ji6) : Int).toNat) t252 t253 t254 t255 t256 t257 t258 t259 t260 t261 t262 t263 t264 t265 t266 t267 t268 _ A9.out).mono ?_); rintro e w35 ⟨rfl, hb⟩; refine ⟨_, rfl, ?_⟩; have n0_ := Aside0.mk (blk_below (g := gb251) (o := .cells #[.int .i64 t234, .bool t235, .bool t236, .bool t237, .bool t238, .bool t239, .bool t240, .int .i64 t241, .int .u64 t242, .int .i64 t243, .int .u64 t244, .int .i64 t245, .int .i64 t246, .int .i64 t247, .int .i64 t248, .int .i64 t249] 24 (0, 0)) (by (with_reducible repeat (first | refine blk_drewN ?_ _ | refine blk_drew ?_ | refine blk_alloc ?_ _)); exact put16_4_12 qt) hb); have n1_ := Aside0.mk (below_step qbr hb); clear BK251; clear HB; have BK251 := n0_; have HB := n1_; clear n0_ n1_; obtain ⟨hcy1_251_0, hcy1_251_1, hcy1_251_2, hcy1_251_3, hcy1_251_4, hcy1_251_5, hcy1_251_6, hcy1_251_7, hcy1_251_8, hcy1_251_9, hcy1_251_10, hcy1_251_11, hcy1_251_12, hcy1_251_13, hcy1_251_14, hcy1_251_15⟩ := cells16 BK251.out; (try clear hb); (try clear hb2); (try clear hk); (try clear hi)) | ((with_reducible refine gate_dst (N := 7) rfl ?_); refine box_event ?hg (N := 7) ?hd (cs := #[.int .i64 0, .bool false, .bool false, .bool false, .bool false, .bool false, .bool false, .int .i64 0, .int .u64 0, .int .i64 0, .int .u64 0, .int .i64 0, .int .i64 0, .int .i64 0, .int .i64 0, .int .i64 0]) (t := 24) ?hr ?_; (case hd => rfl); (case hg => rfl); (case hr => first | (go_simp; done) | (go_simp; rfl)); intro gb269 hg w36 hbox hb; have n0_ := Aside0.mk (blk_below (g := gb251) qt hb); have n1_ := Aside0.mk (below_step qbr hb); have n2_ := Aside0.mk (hbox); have n3_ := Aside0.mk ((by rw [hg]; exact (below_size qbr) : w.heap.size ≤ gb269)); have n4_ := Aside0.mk ((by rw [hg]; exact (below_size qbr) : w.heap.size ≤ gb269)); have n5_ := Aside0.mk ((qc6 : gb251 ≠ gb269)); have n6_ := Aside0.mk ((qc4 : gb269 ≠ gb251)); clear BK251; clear HB; have BK251 := n0_; have HB := n1_; have BK269 := n2_; have GW269 := n3_; have GE269 := n4_; have NB251_269 := n5_; have NB269_251 := n6_; clear n0_ n1_ n2_ n3_ n4_ n5_ n6_; obtain ⟨hcy2_251_0, hcy2_251_1, hcy2_251_2, hcy2_251_3, hcy2_251_4, hcy2_251_5, hcy2_251_6, hcy2_251_7, hcy2_251_8, hcy2_251_9, hcy2_251_10, hcy2_251_11, hcy2_251_12, hcy2_251_13, hcy2_251_14, hcy2_251_15⟩ := cells16 BK251.out; clear hb hbox hg; have hnb37 := NB269_251.out; have hnc37 := NB251_269.out; obtain ⟨hcz38_0, hcz38_1, hcz38_2, hcz38_3, hcz38_4, hcz38_5, hcz38_6, hcz38_7, hcz38_8, hcz38_9, hcz38_10, hcz38_11, hcz38_12, hcz38_13, hcz38_14, hcz38_15⟩ := cells16 BK269.out; obtain ⟨hfz38_0, hfz38_1, hfz38_2, hfz38_3, hfz38_4, hfz38_5, hfz38_6, hfz38_7, hfz38_8, hfz38_9, hfz38_10, hfz38_11, hfz38_12, hfz38_13, hfz38_14, hfz38_15⟩ := frozen16 BK269.out) | (obtain ⟨w36f, hgw_⟩ : ∃ y, y = (World.setCell (World.setCell (World.setCell (World.setCell w36 ⟨gb269, 0, none⟩ (.int .i64 t252)) ⟨gb269, 1, none⟩ (.bool t253)) ⟨gb269, 2, none⟩ (.bool t254)) ⟨gb269, 3, none⟩ (.bool t255)) := ⟨_, rfl⟩; rw [← hgw_]; have m0_ := Aside0.mk (show w36f.heap[gb251]? = some (.cells #[.int .i64 t234, .bool t235, .bool t236, .bool t237, .bool t238, .bool t239, .bool t240, .int .i64 t241, .int .u64 t242, .int .i64 t243, .int .u64 t244, .int .i64 t245, .int .i64 t246, .int .i64 t247, .int .i64 t248, .int .i64 t249] 24 (0, 0)) from (by rw [hgw_]; refine blk_far ?_ NB251_269.out _; (with_reducible repeat (first | refine blk_drewN ?_ _ | refine blk_drew ?_ | refine blk_alloc ?_ _ | refine blk_far ?_ NB251_269.out _)); exact BK251.out)); have m1_ := Aside0.mk (show w36f.heap[gb269]? = some (.cells #[.int .i64 t252, .bool t253, .bool t254, .bool t255, .bool false, .bool false, .bool false, .int .i64 0, .int .u64 0, .int .i64 0, .int .u64 0, .int .i64 0, .int .i64 0, .int .i64 0, .int .i64 0, .int .i64 0] 24 (0, 0)) from (by rw [hgw_]; exact put16_0_4 qz)); have mb_ := Aside0.mk (show Below w.heap.size w w36f from (by rw [hgw_]; exact qca)); clear BK251; have BK251 := m0_; clear m0_; clear BK269; have BK269 := m1_; clear m1_; clear HB; have HB := mb_; clear mb_; clear hgw_; have hcf251_0 : w36f.cell? ⟨gb251, 0, none⟩ = some (.int .i64 t234) := (blk_cell BK251.out 0).trans rfl; have hcf251_1 : w36f.cell? ⟨gb251, 1, none⟩ = some (.bool t235) := (blk_cell BK251.out 1).trans rfl; have hcf251_2 : w36f.cell? ⟨gb251, 2, none⟩ = some (.bool t236) := (blk_cell BK251.out 2).trans rfl; have hcf251_3 : w36f.cell? ⟨gb251, 3, none⟩ = some (.bool t237) := (blk_cell BK251.out 3).trans rfl; have hcf251_4 : w36f.cell? ⟨gb251, 4, none⟩ = some (.bool t238) := (blk_cell BK251.out 4).trans rfl; have hcf251_5 : w36f.cell? ⟨gb251, 5, none⟩ = some (.bool t239) := (blk_cell BK251.out 5).trans rfl; have hcf251_6 : w36f.cell? ⟨gb251, 6, none⟩ = some (.bool t240) := (blk_cell BK251.out 6).trans rfl; have hcf251_7 : w36f.cell? ⟨gb251, 7, none⟩ = some (.int .i64 t241) := (blk_cell BK251.out 7).trans rfl; have hcf251_8 : w36f.cell? ⟨gb251, 8, none⟩ = some (.int .u64 t242) := (blk_cell BK251.out 8).trans rfl; have hcf251_9 : w36f.cell? ⟨gb251, 9, none⟩ = some (.int .i64 t243) := (blk_cell BK251.out 9).trans rfl; have hcf251_10 : w36f.cell? ⟨gb251, 10, none⟩ = some (.int .u64 t244) := (blk_cell BK251.out 10).trans rfl; have hcf251_11 : w36f.cell? ⟨gb251, 11, none⟩ = some (.int .i64 t245) := (blk_cell BK251.out 11).trans rfl; have hcf251_12 : w36f.cell? ⟨gb251, 12, none⟩ = some (.int .i64 t246) := (blk_cell BK251.out 12).trans rfl; have hcf251_13 : w36f.cell? ⟨gb251, 13, none⟩ = some (.int .i64 t247) := (blk_cell BK251.out 13).trans rfl; have hcf251_14 : w36f.cell? ⟨gb251, 14, none⟩ = some (.int .i64 t248) := (blk_cell BK251.out 14).trans rfl; have hcf251_15 : w36f.cell? ⟨gb251, 15, none⟩ = some (.int .i64 t249) := (blk_cell BK251.out 15).trans rfl; have hff251_0 := blk_frozen BK251.out 0; have hff251_1 := blk_frozen BK251.out 1; have hff251_2 := blk_frozen BK251.out 2; have hff251_3 := blk_frozen BK251.out 3; have hff251_4 := blk_frozen BK251.out 4; have hff251_5 := blk_frozen BK251.out 5; have hff251_6 := blk_frozen BK251.out 6; have hff251_7 := blk_frozen BK251.out 7; have hff251_8 := blk_frozen BK251.out 8; have hff251_9 := blk_frozen BK251.out 9; have hff251_10 := blk_frozen BK251.out 10; have hff251_11 := blk_frozen BK251.out 11; have hff251_12 := blk_frozen BK251.out 12; have hff251_13 := blk_frozen BK251.out 13; have hff251_14 := blk_frozen BK251.out 14; have hff251_15 := blk_frozen BK251.out 15; have hcf269_0 : w36f.cell? ⟨gb269, 0, none⟩ = some (.int .i64 t252) := (blk_cell BK269.out 0).trans rfl; have hcf269_1 : w36f.cell? ⟨gb269, 1, none⟩ = some (.bool t253) := (blk_cell BK269.out 1).trans rfl; have hcf269_2 : w36f.cell? ⟨gb269, 2, none⟩ = some (.bool t254) := (blk_cell BK269.out 2).trans rfl; have hcf269_3 : w36f.cell? ⟨gb269, 3, none⟩ = some (.bool t255) := (blk_cell BK269.out 3).trans rfl; have hcf269_4 : w36f.cell? ⟨gb269, 4, none⟩ = some (.bool false) := (blk_cell BK269.out 4).trans rfl; have hcf269_5 : w36f.cell? ⟨gb269, 5, none⟩ = some (.bool false) := (blk_cell BK269.out 5).trans rfl; have hcf269_6 : w36f.cell? ⟨gb269, 6, none⟩ = some (.bool false) := (blk_cell BK269.out 6).trans rfl; have hcf269_7 : w36f.cell? ⟨gb269, 7, none⟩ = some (.int .i64 0) := (blk_cell BK269.out 7).trans rfl; have hcf269_8 : w36f.cell? ⟨gb269, 8, none⟩ = some (.int .u64 0) := (blk_cell BK269.out 8).trans rfl; have hcf269_9 : w36f.cell? ⟨gb269, 9, none⟩ = some (.int .i64 0) := (blk_cell BK269.out 9).trans rfl; have hcf269_10 : w36f.cell? ⟨gb269, 10, none⟩ = some (.int .u64 0) := (blk_cell BK269.out 10).trans rfl; have hcf269_11 : w36f.cell? ⟨gb269, 11, none⟩ = some (.int .i64 0) := (blk_cell BK269.out 11).trans rfl; have hcf269_12 : w36f.cell? ⟨gb269, 12, none⟩ = some (.int .i64 0) := (blk_cell BK269.out 12).trans rfl; have hcf269_13 : w36f.cell? ⟨gb269, 13, none⟩ = some (.int .i64 0) := (blk_cell BK269.out 13).trans rfl; have hcf269_14 : w36f.cell? ⟨gb269, 14, none⟩ = some (.int .i64 0) := (blk_cell BK269.out 14).trans rfl; have hcf269_15 : w36f.cell? ⟨gb269, 15, none⟩ = some (.int .i64 0) := (blk_cell BK269.out 15).trans rfl; have hff269_0 := blk_frozen BK269.out 0; have hff269_1 := blk_frozen BK269.out 1; have hff269_2 := blk_frozen BK269.out 2; have hff269_3 := blk_frozen BK269.out 3; have hff269_4 := blk_frozen BK269.out 4; have hff269_5 := blk_frozen BK269.out 5; have hff269_6 := blk_frozen BK269.out 6; have hff269_7 := blk_frozen BK269.out 7; have hff269_8 := blk_frozen BK269.out 8; have hff269_9 := blk_frozen BK269.out 9; have hff269_10 := blk_frozen BK269.out 10; have hff269_11 := blk_frozen BK269.out 11; have hff269_12 := blk_frozen BK269.out 12; have hff269_13 := blk_frozen BK269.out 13; have hff269_14 := blk_frozen BK269.out 14; have hff269_15 := blk_frozen BK269.out 15) | ((with_reducible refine gate_callee (f := 13) rfl ?_); refine goesL_ (some 43) rfl rfl Tryd.func13 qf rfl #[.string (⟨#[66, 66, 3, 0, 1, 0, 128]⟩ : ByteArray)] rfl qbi ?_; (with_reducible refine (bpdu_Parse.calls k (⟨#[66, 66, 3, 0, 1, 0, 128]⟩ : ByteArray) t270 t271 t272 t273 t274 t275 t276 t277 t278 t279 t280 t281 t282 t283 t284 t285 t286 _ A10.out).mono ?_); rintro e w39 ⟨rfl, hb⟩; refine ⟨_, rfl, ?_⟩; have n0_ := Aside0.mk (blk_below (g := gb251) (o := .cells #[.int .i64 t234, .bool t235, .bool t236, .bool t237, .bool t238, .bool t239, .bool t240, .int .i64 t241, .int .u64 t242, .int .i64 t243, .int .u64 t244, .int .i64 t245, .int .i64 t246, .int .i64 t247, .int .i64 t248, .int .i64 t249] 24 (0, 0)) (by (with_reducible repeat (first | refine blk_drewN ?_ _ | refine blk_drew ?_ | refine blk_alloc ?_ _ | refine blk_far ?_ NB251_269.out _)); exact BK251.out) hb); have n1_ := Aside0.mk (blk_below (g := gb269) (o := .cells #[.int .i64 t252, .bool t253, .bool t254, .bool t255, .bool t256, .bool t257, .bool t258, .int .i64 t259, .int .u64 t260, .int .i64 t261, .int .u64 t262, .int .i64 t263, .int .i64 t264, .int .i64 t265, .int .i64 t266, .int .i64 t267] 24 (0, 0)) (by (with_reducible repeat (first | refine blk_drewN ?_ _ | refine blk_drew ?_ | refine blk_alloc ?_ _)); exact put16_4_12 qz) hb); have n2_ := Aside0.mk (below_step qca hb); clear BK251; clear BK269; clear HB; have BK251 := n0_; have BK269 := n1_; have HB := n2_; clear n0_ n1_ n2_; obtain ⟨hcy3_251_0, hcy3_251_1, hcy3_251_2, hcy3_251_3, hcy3_251_4, hcy3_251_5, hcy3_251_6, hcy3_251_7, hcy3_251_8, hcy3_251_9, hcy3_251_10, hcy3_251_11, hcy3_251_12, hcy3_251_13, hcy3_251_14, hcy3_251_15⟩ := cells16 BK251.out; (try clear hb); (try clear hb2); (try clear hk); (try clear hi)) | ((with_reducible refine gate_dst (N := 9) rfl ?_); refine box_event ?hg (N := 9) ?hd (cs := #[.int .i64 0, .bool false, .bool false, .bool false, .bool false, .bool false, .bool false, .int .i64 0, .int .u64 0, .int .i64 0, .int .u64 0, .int .i64 0, .int .i64 0, .int .i64 0, .int .i64 0, .int .i64 0]) (t := 24) ?hr ?_; (case hd => rfl); (case hg => rfl); (case hr => first | (go_simp; done) | (go_simp; rfl)); intro gb287 hg w40 hbox hb; have n0_ := Aside0.mk (blk_below (g := gb251) qt hb); have n1_ := Aside0.mk (blk_below (g := gb269) qz hb); have n2_ := Aside0.mk (below_step qca hb); have n3_ := Aside0.mk (hbox); have n4_ := Aside0.mk ((by rw [hg]; exact (below_size qca) : w.heap.size ≤ gb287)); have n5_ := Aside0.mk ((by rw [hg]; exact (below_size qca) : w.heap.size ≤ gb287)); have n6_ := Aside0.mk ((qc6 : gb251 ≠ gb287)); have n7_ := Aside0.mk ((qc4 : gb287 ≠ gb251)); have n8_ := Aside0.mk ((by rw [hg]; exact Nat.ne_of_lt (blk_lt (g := gb269) qz) : gb269 ≠ gb287)); have n9_ := Aside0.mk ((by rw [hg]; exact Nat.ne_of_gt (blk_lt (g := gb269) qz) : gb287 ≠ gb269)); clear BK251; clear BK269; clear HB; have BK251 := n0_; have BK269 := n1_; have HB := n2_; have BK287 := n3_; have GW287 := n4_; have GE287 := n5_; have NB251_287 := n6_; have NB287_251 := n7_; have NB269_287 := n8_; have NB287_269 := n9_; clear n0_ n1_ n2_ n3_ n4_ n5_ n6_ n7_ n8_ n9_; obtain ⟨hcy4_251_0, hcy4_251_1, hcy4_251_2, hcy4_251_3, hcy4_251_4, hcy4_251_5, hcy4_251_6, hcy4_251_7, hcy4_251_8, hcy4_251_9, hcy4_251_10, hcy4_251_11, hcy4_251_12, hcy4_251_13, hcy4_251_14, hcy4_251_15⟩ := cells16 BK251.out; clear hb hbox hg; have hnb41 := NB287_251.out; have hnc41 := NB251_287.out; have hnb42 := NB287_269.out; have hnc42 := NB269_287.out; obtain ⟨hcz43_0, hcz43_1, hcz43_2, hcz43_3, hcz43_4, hcz43_5, hcz43_6, hcz43_7, hcz43_8, hcz43_9, hcz43_10, hcz43_11, hcz43_12, hcz43_13, hcz43_14, hcz43_15⟩ := cells16 BK287.out; obtain ⟨hfz43_0, hfz43_1, hfz43_2, hfz43_3, hfz43_4, hfz43_5, hfz43_6, hfz43_7, hfz43_8, hfz43_9, hfz43_10, hfz43_11, hfz43_12, hfz43_13, hfz43_14, hfz43_15⟩ := frozen16 BK287.out) | (obtain ⟨w40f, hgw_⟩ : ∃ y, y = (World.setCell (World.setCell (World.setCell (World.setCell w40 ⟨gb287, 0, none⟩ (.int .i64 t270)) ⟨gb287, 1, none⟩ (.bool t271)) ⟨gb287, 2, none⟩ (.bool t272)) ⟨gb287, 3, none⟩ (.bool t273)) := ⟨_, rfl⟩; rw [← hgw_]; have m0_ := Aside0.mk (show w40f.heap[gb251]? = some (.cells #[.int .i64 t234, .bool t235, .bool t236, .bool t237, .bool t238, .bool t239, .bool t240, .int .i64 t241, .int .u64 t242, .int .i64 t243, .int .u64 t244, .int .i64 t245, .int .i64 t246, .int .i64 t247, .int .i64 t248, .int .i64 t249] 24 (0, 0)) from (by rw [hgw_]; refine blk_far ?_ NB251_287.out _; (with_reducible repeat (first | refine blk_drewN ?_ _ | refine blk_drew ?_ | refine blk_alloc ?_ _ | refine blk_far ?_ NB251_287.out _)); exact BK251.out)); have m1_ := Aside0.mk (show w40f.heap[gb269]? = some (.cells #[.int .i64 t252, .bool t253, .bool t254, .bool t255, .bool t256, .bool t257, .bool t258, .int .i64 t259, .int .u64 t260, .int .i64 t261, .int .u64 t262, .int .i64 t263, .int .i64 t264, .int .i64 t265, .int .i64 t266, .int .i64 t267] 24 (0, 0)) from (by rw [hgw_]; refine blk_far ?_ NB269_287.out _; (with_reducible repeat (first | refine blk_drewN ?_ _ | refine blk_drew ?_ | refine blk_alloc ?_ _ | refine blk_far ?_ NB269_287.out _)); exact BK269.out)); have m2_ := Aside0.mk (show w40f.heap[gb287]? = some (.cells #[.int .i64 t270, .bool t271, .bool t272, .bool t273, .bool false, .bool false, .bool false, .int .i64 0, .int .u64 0, .int .i64 0, .int .u64 0, .int .i64 0, .int .i64 0, .int .i64 0, .int .i64 0, .int .i64 0] 24 (0, 0)) from (by rw [hgw_]; exact put16_0_4 q4)); have mb_ := Aside0.mk (show Below w.heap.size w w40f from (by rw [hgw_]; exact qch)); clear BK251; have BK251 := m0_; clear m0_; clear BK269; have BK269 := m1_; clear m1_; clear BK287; have BK287 := m2_; clear m2_; clear HB; have HB := mb_; clear mb_; clear hgw_; have hcf251_0 : w40f.cell? ⟨gb251, 0, none⟩ = some (.int .i64 t234) := (blk_cell BK251.out 0).trans rfl; have hcf251_1 : w40f.cell? ⟨gb251, 1, none⟩ = some (.bool t235) := (blk_cell BK251.out 1).trans rfl; have hcf251_2 : w40f.cell? ⟨gb251, 2, none⟩ = some (.bool t236) := (blk_cell BK251.out 2).trans rfl; have hcf251_3 : w40f.cell? ⟨gb251, 3, none⟩ = some (.bool t237) := (blk_cell BK251.out 3).trans rfl; have hcf251_4 : w40f.cell? ⟨gb251, 4, none⟩ = some (.bool t238) := (blk_cell BK251.out 4).trans rfl; have hcf251_5 : w40f.cell? ⟨gb251, 5, none⟩ = some (.bool t239) := (blk_cell BK251.out 5).trans rfl; have hcf251_6 : w40f.cell? ⟨gb251, 6, none⟩ = some (.bool t240) := (blk_cell BK251.out 6).trans rfl; have hcf251_7 : w40f.cell? ⟨gb251, 7, none⟩ = some (.int .i64 t241) := (blk_cell BK251.out 7).trans rfl; have hcf251_8 : w40f.cell? ⟨gb251, 8, none⟩ = some (.int .u64 t242) := (blk_cell BK251.out 8).trans rfl; have hcf251_9 : w40f.cell? ⟨gb251, 9, none⟩ = some (.int .i64 t243) := (blk_cell BK251.out 9).trans rfl; have hcf251_10 : w40f.cell? ⟨gb251, 10, none⟩ = some (.int .u64 t244) := (blk_cell BK251.out 10).trans rfl; have hcf251_11 : w40f.cell? ⟨gb251, 11, none⟩ = some (.int .i64 t245) := (blk_cell BK251.out 11).trans rfl; have hcf251_12 : w40f.cell? ⟨gb251, 12, none⟩ = some (.int .i64 t246) := (blk_cell BK251.out 12).trans rfl; have hcf251_13 : w40f.cell? ⟨gb251, 13, none⟩ = some (.int .i64 t247) := (blk_cell BK251.out 13).trans rfl; have hcf251_14 : w40f.cell? ⟨gb251, 14, none⟩ = some (.int .i64 t248) := (blk_cell BK251.out 14).trans rfl; have hcf251_15 : w40f.cell? ⟨gb251, 15, none⟩ = some (.int .i64 t249) := (blk_cell BK251.out 15).trans rfl; have hff251_0 := blk_frozen BK251.out 0; have hff251_1 := blk_frozen BK251.out 1; have hff251_2 := blk_frozen BK251.out 2; have hff251_3 := blk_frozen BK251.out 3; have hff251_4 := blk_frozen BK251.out 4; have hff251_5 := blk_frozen BK251.out 5; have hff251_6 := blk_frozen BK251.out 6; have hff251_7 := blk_frozen BK251.out 7; have hff251_8 := blk_frozen BK251.out 8; have hff251_9 := blk_frozen BK251.out 9; have hff251_10 := blk_frozen BK251.out 10; have hff251_11 := blk_frozen BK251.out 11; have hff251_12 := blk_frozen BK251.out 12; have hff251_13 := blk_frozen BK251.out 13; have hff251_14 := blk_frozen BK251.out 14; have hff251_15 := blk_frozen BK251.out 15; have hcf269_0 : w40f.cell? ⟨gb269, 0, none⟩ = some (.int .i64 t252) := (blk_cell BK269.out 0).trans rfl; have hcf269_1 : w40f.cell? ⟨gb269, 1, none⟩ = some (.bool t253) := (blk_cell BK269.out 1).trans rfl; have hcf269_2 : w40f.cell? ⟨gb269, 2, none⟩ = some (.bool t254) := (blk_cell BK269.out 2).trans rfl; have hcf269_3 : w40f.cell? ⟨gb269, 3, none⟩ = some (.bool t255) := (blk_cell BK269.out 3).trans rfl; have hcf269_4 : w40f.cell? ⟨gb269, 4, none⟩ = some (.bool t256) := (blk_cell BK269.out 4).trans rfl; have hcf269_5 : w40f.cell? ⟨gb269, 5, none⟩ = some (.bool t257) := (blk_cell BK269.out 5).trans rfl; have hcf269_6 : w40f.cell? ⟨gb269, 6, none⟩ = some (.bool t258) := (blk_cell BK269.out 6).trans rfl; have hcf269_7 : w40f.cell? ⟨gb269, 7, none⟩ = some (.int .i64 t259) := (blk_cell BK269.out 7).trans rfl; have hcf269_8 : w40f.cell? ⟨gb269, 8, none⟩ = some (.int .u64 t260) := (blk_cell BK269.out 8).trans rfl; have hcf269_9 : w40f.cell? ⟨gb269, 9, none⟩ = some (.int .i64 t261) := (blk_cell BK269.out 9).trans rfl; have hcf269_10 : w40f.cell? ⟨gb269, 10, none⟩ = some (.int .u64 t262) := (blk_cell BK269.out 10).trans rfl; have hcf269_11 : w40f.cell? ⟨gb269, 11, none⟩ = some (.int .i64 t263) := (blk_cell BK269.out 11).trans rfl; have hcf269_12 : w40f.cell? ⟨gb269, 12, none⟩ = some (.int .i64 t264) := (blk_cell BK269.out 12).trans rfl; have hcf269_13 : w40f.cell? ⟨gb269, 13, none⟩ = some (.int .i64 t265) := (blk_cell BK269.out 13).trans rfl; have hcf269_14 : w40f.cell? ⟨gb269, 14, none⟩ = some (.int .i64 t266) := (blk_cell BK269.out 14).trans rfl; have hcf269_15 : w40f.cell? ⟨gb269, 15, none⟩ = some (.int .i64 t267) := (blk_cell BK269.out 15).trans rfl; have hff269_0 := blk_frozen BK269.out 0; have hff269_1 := blk_frozen BK269.out 1; have hff269_2 := blk_frozen BK269.out 2; have hff269_3 := blk_frozen BK269.out 3; have hff269_4 := blk_frozen BK269.out 4; have hff269_5 := blk_frozen BK269.out 5; have hff269_6 := blk_frozen BK269.out 6; have hff269_7 := blk_frozen BK269.out 7; have hff269_8 := blk_frozen BK269.out 8; have hff269_9 := blk_frozen BK269.out 9; have hff269_10 := blk_frozen BK269.out 10; have hff269_11 := blk_frozen BK269.out 11; have hff269_12 := blk_frozen BK269.out 12; have hff269_13 := blk_frozen BK269.out 13; have hff269_14 := blk_frozen BK269.out 14; have hff269_15 := blk_frozen BK269.out 15; have hcf287_0 : w40f.cell? ⟨gb287, 0, none⟩ = some (.int .i64 t270) := (blk_cell BK287.out 0).trans rfl; have hcf287_1 : w40f.cell? ⟨gb287, 1, none⟩ = some (.bool t271) := (blk_cell BK287.out 1).trans rfl; have hcf287_2 : w40f.cell? ⟨gb287, 2, none⟩ = some (.bool t272) := (blk_cell BK287.out 2).trans rfl; have hcf287_3 : w40f.cell? ⟨gb287, 3, none⟩ = some (.bool t273) := (blk_cell BK287.out 3).trans rfl; have hcf287_4 : w40f.cell? ⟨gb287, 4, none⟩ = some (.bool false) := (blk_cell BK287.out 4).trans rfl; have hcf287_5 : w40f.cell? ⟨gb287, 5, none⟩ = some (.bool false) := (blk_cell BK287.out 5).trans rfl; have hcf287_6 : w40f.cell? ⟨gb287, 6, none⟩ = some (.bool false) := (blk_cell BK287.out 6).trans rfl; have hcf287_7 : w40f.cell? ⟨gb287, 7, none⟩ = some (.int .i64 0) := (blk_cell BK287.out 7).trans rfl; have hcf287_8 : w40f.cell? ⟨gb287, 8, none⟩ = some (.int .u64 0) := (blk_cell BK287.out 8).trans rfl; have hcf287_9 : w40f.cell? ⟨gb287, 9, none⟩ = some (.int .i64 0) := (blk_cell BK287.out 9).trans rfl; have hcf287_10 : w40f.cell? ⟨gb287, 10, none⟩ = some (.int .u64 0) := (blk_cell BK287.out 10).trans rfl; have hcf287_11 : w40f.cell? ⟨gb287, 11, none⟩ = some (.int .i64 0) := (blk_cell BK287.out 11).trans rfl; have hcf287_12 : w40f.cell? ⟨gb287, 12, none⟩ = some (.int .i64 0) := (blk_cell BK287.out 12).trans rfl; have hcf287_13 : w40f.cell? ⟨gb287, 13, none⟩ = some (.int .i64 0) := (blk_cell BK287.out 13).trans rfl; have hcf287_14 : w40f.cell? ⟨gb287, 14, none⟩ = some (.int .i64 0) := (blk_cell BK287.out 14).trans rfl; have hcf287_15 : w40f.cell? ⟨gb287, 15, none⟩ = some (.int .i64 0) := (blk_cell BK287.out 15).trans rfl; have hff287_0 := blk_frozen BK287.out 0; have hff287_1 := blk_frozen BK287.out 1; have hff287_2 := blk_frozen BK287.out 2; have hff287_3 := blk_frozen BK287.out 3; have hff287_4 := blk_frozen BK287.out 4; have hff287_5 := blk_frozen BK287.out 5; have hff287_6 := blk_frozen BK287.out 6; have hff287_7 := blk_frozen BK287.out 7; have hff287_8 := blk_frozen BK287.out 8; have hff287_9 := blk_frozen BK287.out 9; have hff287_10 := blk_frozen BK287.out 10; have hff287_11 := blk_frozen BK287.out 11; have hff287_12 := blk_frozen BK287.out 12; have hff287_13 := blk_frozen BK287.out 13; have hff287_14 := blk_frozen BK287.out 14; have hff287_15 := blk_frozen BK287.out 15) | ((with_reducible refine gate_callee (f := 8) rfl ?_); refine goesL_ (some 48) rfl rfl Tryd.func8 qf rfl #[.agg #[.int .i64 0, .bool false, .bool true, .bool false, .bool false, .bool false, .bool false, .int .i64 0, .int .u64 0, .int .i64 0, .int .u64 0, .int .i64 0, .int .i64 0, .int .i64 0, .int .i64 0, .int .i64 0]] rfl qbi ?_; (with_reducible refine (bpdu_Build.calls k 0 false true false false false false 0 0 0 0 0 0 0 0 0 t288 t289 _ A11.out).mono ?_); rintro e w44 ⟨rfl, hb⟩; refine ⟨_, rfl, ?_⟩; have n0_ := Aside0.mk (blk_below (g := gb251) (o := .cells #[.int .i64 t234, .bool t235, .bool t236, .bool t237, .bool t238, .bool t239, .bool t240, .int .i64 t241, .int .u64 t242, .int .i64 t243, .int .u64 t244, .int .i64 t245, .int .i64 t246, .int .i64 t247, .int .i64 t248, .int .i64 t249] 24 (0, 0)) (by (with_reducible repeat (first | refine blk_drewN ?_ _ | refine blk_drew ?_ | refine blk_alloc ?_ _ | refine blk_far ?_ NB251_287.out _)); exact BK251.out) hb); have n1_ := Aside0.mk (blk_below (g := gb269) (o := .cells #[.int .i64 t252, .bool t253, .bool t254, .bool t255, .bool t256, .bool t257, .bool t258, .int .i64 t259, .int .u64 t260, .int .i64 t261, .int .u64 t262, .int .i64 t263, .int .i64 t264, .int .i64 t265, .int .i64 t266, .int .i64 t267] 24 (0, 0)) (by (with_reducible repeat (first | refine blk_drewN ?_ _ | refine blk_drew ?_ | refine blk_alloc ?_ _ | refine blk_far ?_ NB269_287.out _)); exact BK269.out) hb); have n2_ := Aside0.mk (blk_below (g := gb287) (o := .cells #[.int .i64 t270, .bool t271, .bool t272, .bool t273, .bool t274, .bool t275, .bool t276, .int .i64 t277, .int .u64 t278, .int .i64 t279, .int .u64 t280, .int .i64 t281, .int .i64 t282, .int .i64 t283, .int .i64 t284, .int .i64 t285] 24 (0, 0)) (by (with_reducible repeat (first | refine blk_drewN ?_ _ | refine blk_drew ?_ | refine blk_alloc ?_ _)); exact put16_4_12 q4) hb); have n3_ := Aside0.mk (below_step qch hb); clear BK251; clear BK269; clear BK287; clear HB; have BK251 := n0_; have BK269 := n1_; have BK287 := n2_; have HB := n3_; clear n0_ n1_ n2_ n3_; obtain ⟨hcy5_251_0, hcy5_251_1, hcy5_251_2, hcy5_251_3, hcy5_251_4, hcy5_251_5, hcy5_251_6, hcy5_251_7, hcy5_251_8, hcy5_251_9, hcy5_251_10, hcy5_251_11, hcy5_251_12, hcy5_251_13, hcy5_251_14, hcy5_251_15⟩ := cells16 BK251.out; (try clear hb); (try clear hb2); (try clear hk); (try clear hi)) | ((with_reducible refine gate_callee (f := 23) rfl ?_); refine goesL_ (some 52) rfl rfl Tryd.func23 qf rfl #[] rfl qbi ?_; (with_reducible refine (gangwaylaw09_rapid.calls  t290 t291 t292 t293 t294 t295 t296 t297 t298 t299 t300 t301 t302 t303 t304 t305 _ A12.out).mono ?_); rintro e w45 ⟨rfl, hb⟩; refine ⟨_, rfl, ?_⟩; have n0_ := Aside0.mk (blk_below (g := gb251) qt hb); have n1_ := Aside0.mk (blk_below (g := gb269) qz hb); have n2_ := Aside0.mk (blk_below (g := gb287) q4 hb); have n3_ := Aside0.mk (below_step qch hb); clear BK251; clear BK269; clear BK287; clear HB; have BK251 := n0_; have BK269 := n1_; have BK287 := n2_; have HB := n3_; clear n0_ n1_ n2_ n3_; obtain ⟨hcy6_251_0, hcy6_251_1, hcy6_251_2, hcy6_251_3, hcy6_251_4, hcy6_251_5, hcy6_251_6, hcy6_251_7, hcy6_251_8, hcy6_251_9, hcy6_251_10, hcy6_251_11, hcy6_251_12, hcy6_251_13, hcy6_251_14, hcy6_251_15⟩ := cells16 BK251.out; (try clear hb); (try clear hb2); (try clear hk); (try clear hi)) | ((with_reducible refine gate_callee (f := 15) rfl ?_); refine goesL_ (some 53) rfl rfl Tryd.func15 qf rfl #[.int .u64 2, .agg #[.int .i64 t290, .bool t291, .bool t292, .bool t293, .bool t294, .bool t295, .bool t296, .int .i64 t297, .int .u64 t298, .int .i64 t299, .int .u64 t300, .int .i64 t301, .int .i64 t302, .int .i64 t303, .int .i64 t304, .int .i64 t305]] rfl qbi ?_; (with_reducible refine (bpdu_Frame.calls k 2 t290 t291 t292 t293 t294 t295 t296 t297 t298 t299 t300 t301 t302 t303 t304 t305 t306 t307 t308 t309 t310 t311 t312 t313 t314 _ A13.out).mono ?_); rintro e w46 ⟨rfl, hb⟩; refine ⟨_, rfl, ?_⟩; have n0_ := Aside0.mk (blk_below (g := gb251) qt hb); have n1_ := Aside0.mk (blk_below (g := gb269) qz hb); have n2_ := Aside0.mk (blk_below (g := gb287) q4 hb); have n3_ := Aside0.mk (below_step qch hb); clear BK251; clear BK269; clear BK287; clear HB; have BK251 := n0_; have BK269 := n1_; have BK287 := n2_; have HB := n3_; clear n0_ n1_ n2_ n3_; obtain ⟨hcy7_251_0, hcy7_251_1, hcy7_251_2, hcy7_251_3, hcy7_251_4, hcy7_251_5, hcy7_251_6, hcy7_251_7, hcy7_251_8, hcy7_251_9, hcy7_251_10, hcy7_251_11, hcy7_251_12, hcy7_251_13, hcy7_251_14, hcy7_251_15⟩ := cells16 BK251.out; (try clear hb); (try clear hb2); (try clear hk); (try clear hi)) | ((with_reducible refine gate_dst (N := 13) rfl ?_); refine box_event ?hg (N := 13) ?hd (cs := #[.int .u64 0, .int .u64 0, .bool false, .int .i64 0, .bool false, .int .i64 0, .int .i64 0, .string (⟨#[]⟩ : ByteArray)]) (t := 37) ?hr ?_; (case hd => rfl); (case hg => rfl); (case hr => first | (go_simp; done) | (go_simp; rfl)); intro gb315 hg w47 hbox hb; have n0_ := Aside0.mk (blk_below (g := gb251) qt hb); have n1_ := Aside0.mk (blk_below (g := gb269) qz hb); have n2_ := Aside0.mk (blk_below (g := gb287) q4 hb); have n3_ := Aside0.mk (below_step qch hb); have n4_ := Aside0.mk (hbox); have n5_ := Aside0.mk ((by rw [hg]; exact (below_size qch) : w.heap.size ≤ gb315)); have n6_ := Aside0.mk ((by rw [hg]; exact (below_size qch) : w.heap.size ≤ gb315)); have n7_ := Aside0.mk ((qc6 : gb251 ≠ gb315)); have n8_ := Aside0.mk ((qc4 : gb315 ≠ gb251)); have n9_ := Aside0.mk ((by rw [hg]; exact Nat.ne_of_lt (blk_lt (g := gb269) qz) : gb269 ≠ gb315)); have n10_ := Aside0.mk ((by rw [hg]; exact Nat.ne_of_gt (blk_lt (g := gb269) qz) : gb315 ≠ gb269)); have n11_ := Aside0.mk ((by rw [hg]; exact Nat.ne_of_lt (blk_lt (g := gb287) q4) : gb287 ≠ gb315)); have n12_ := Aside0.mk ((by rw [hg]; exact Nat.ne_of_gt (blk_lt (g := gb287) q4) : gb315 ≠ gb287)); clear BK251; clear BK269; clear BK287; clear HB; have BK251 := n0_; have BK269 := n1_; have BK287 := n2_; have HB := n3_; have BK315 := n4_; have GW315 := n5_; have GE315 := n6_; have NB251_315 := n7_; have NB315_251 := n8_; have NB269_315 := n9_; have NB315_269 := n10_; have NB287_315 := n11_; have NB315_287 := n12_; clear n0_ n1_ n2_ n3_ n4_ n5_ n6_ n7_ n8_ n9_ n10_ n11_ n12_; obtain ⟨hcy8_251_0, hcy8_251_1, hcy8_251_2, hcy8_251_3, hcy8_251_4, hcy8_251_5, hcy8_251_6, hcy8_251_7, hcy8_251_8, hcy8_251_9, hcy8_251_10, hcy8_251_11, hcy8_251_12, hcy8_251_13, hcy8_251_14, hcy8_251_15⟩ := cells16 BK251.out; clear hb hbox hg; have hnb48 := NB315_251.out; have hnc48 := NB251_315.out; have hnb49 := NB315_269.out; have hnc49 := NB269_315.out; have hnb50 := NB315_287.out; have hnc50 := NB287_315.out; obtain ⟨hcz51_0, hcz51_1, hcz51_2, hcz51_3, hcz51_4, hcz51_5, hcz51_6, hcz51_7⟩ := cells8 BK315.out; obtain ⟨hfz51_0, hfz51_1, hfz51_2, hfz51_3, hfz51_4, hfz51_5, hfz51_6, hfz51_7⟩ := frozen8 BK315.out) | (obtain ⟨w47f, hgw_⟩ : ∃ y, y = (World.setCell (World.setCell (World.setCell (World.setCell w47 ⟨gb315, 0, none⟩ (.int .u64 t306)) ⟨gb315, 1, none⟩ (.int .u64 t307)) ⟨gb315, 2, none⟩ (.bool t308)) ⟨gb315, 3, none⟩ (.int .i64 t309)) := ⟨_, rfl⟩; rw [← hgw_]; have m0_ := Aside0.mk (show w47f.heap[gb251]? = some (.cells #[.int .i64 t234, .bool t235, .bool t236, .bool t237, .bool t238, .bool t239, .bool t240, .int .i64 t241, .int .u64 t242, .int .i64 t243, .int .u64 t244, .int .i64 t245, .int .i64 t246, .int .i64 t247, .int .i64 t248, .int .i64 t249] 24 (0, 0)) from (by rw [hgw_]; refine blk_far ?_ NB251_315.out _; (with_reducible repeat (first | refine blk_drewN ?_ _ | refine blk_drew ?_ | refine blk_alloc ?_ _ | refine blk_far ?_ NB251_315.out _)); exact BK251.out)); have m1_ := Aside0.mk (show w47f.heap[gb269]? = some (.cells #[.int .i64 t252, .bool t253, .bool t254, .bool t255, .bool t256, .bool t257, .bool t258, .int .i64 t259, .int .u64 t260, .int .i64 t261, .int .u64 t262, .int .i64 t263, .int .i64 t264, .int .i64 t265, .int .i64 t266, .int .i64 t267] 24 (0, 0)) from (by rw [hgw_]; refine blk_far ?_ NB269_315.out _; (with_reducible repeat (first | refine blk_drewN ?_ _ | refine blk_drew ?_ | refine blk_alloc ?_ _ | refine blk_far ?_ NB269_315.out _)); exact BK269.out)); have m2_ := Aside0.mk (show w47f.heap[gb287]? = some (.cells #[.int .i64 t270, .bool t271, .bool t272, .bool t273, .bool t274, .bool t275, .bool t276, .int .i64 t277, .int .u64 t278, .int .i64 t279, .int .u64 t280, .int .i64 t281, .int .i64 t282, .int .i64 t283, .int .i64 t284, .int .i64 t285] 24 (0, 0)) from (by rw [hgw_]; refine blk_far ?_ NB287_315.out _; (with_reducible repeat (first | refine blk_drewN ?_ _ | refine blk_drew ?_ | refine blk_alloc ?_ _ | refine blk_far ?_ NB287_315.out _)); exact BK287.out)); have m3_ := Aside0.mk (show w47f.heap[gb315]? = some (.cells #[.int .u64 t306, .int .u64 t307, .bool t308, .int .i64 t309, .bool false, .int .i64 0, .int .i64 0, .string (⟨#[]⟩ : ByteArray)] 37 (0, 0)) from (by rw [hgw_]; exact put8_0_4 qba)); have mb_ := Aside0.mk (show Below w.heap.size w w47f from (by rw [hgw_]; exact qck)); clear BK251; have BK251 := m0_; clear m0_; clear BK269; have BK269 := m1_; clear m1_; clear BK287; have BK287 := m2_; clear m2_; clear BK315; have BK315 := m3_; clear m3_; clear HB; have HB := mb_; clear mb_; clear hgw_; have hcf251_0 : w47f.cell? ⟨gb251, 0, none⟩ = some (.int .i64 t234) := (blk_cell BK251.out 0).trans rfl; have hcf251_1 : w47f.cell? ⟨gb251, 1, none⟩ = some (.bool t235) := (blk_cell BK251.out 1).trans rfl; have hcf251_2 : w47f.cell? ⟨gb251, 2, none⟩ = some (.bool t236) := (blk_cell BK251.out 2).trans rfl; have hcf251_3 : w47f.cell? ⟨gb251, 3, none⟩ = some (.bool t237) := (blk_cell BK251.out 3).trans rfl; have hcf251_4 : w47f.cell? ⟨gb251, 4, none⟩ = some (.bool t238) := (blk_cell BK251.out 4).trans rfl; have hcf251_5 : w47f.cell? ⟨gb251, 5, none⟩ = some (.bool t239) := (blk_cell BK251.out 5).trans rfl; have hcf251_6 : w47f.cell? ⟨gb251, 6, none⟩ = some (.bool t240) := (blk_cell BK251.out 6).trans rfl; have hcf251_7 : w47f.cell? ⟨gb251, 7, none⟩ = some (.int .i64 t241) := (blk_cell BK251.out 7).trans rfl; have hcf251_8 : w47f.cell? ⟨gb251, 8, none⟩ = some (.int .u64 t242) := (blk_cell BK251.out 8).trans rfl; have hcf251_9 : w47f.cell? ⟨gb251, 9, none⟩ = some (.int .i64 t243) := (blk_cell BK251.out 9).trans rfl; have hcf251_10 : w47f.cell? ⟨gb251, 10, none⟩ = some (.int .u64 t244) := (blk_cell BK251.out 10).trans rfl; have hcf251_11 : w47f.cell? ⟨gb251, 11, none⟩ = some (.int .i64 t245) := (blk_cell BK251.out 11).trans rfl; have hcf251_12 : w47f.cell? ⟨gb251, 12, none⟩ = some (.int .i64 t246) := (blk_cell BK251.out 12).trans rfl; have hcf251_13 : w47f.cell? ⟨gb251, 13, none⟩ = some (.int .i64 t247) := (blk_cell BK251.out 13).trans rfl; have hcf251_14 : w47f.cell? ⟨gb251, 14, none⟩ = some (.int .i64 t248) := (blk_cell BK251.out 14).trans rfl; have hcf251_15 : w47f.cell? ⟨gb251, 15, none⟩ = some (.int .i64 t249) := (blk_cell BK251.out 15).trans rfl; have hff251_0 := blk_frozen BK251.out 0; have hff251_1 := blk_frozen BK251.out 1; have hff251_2 := blk_frozen BK251.out 2; have hff251_3 := blk_frozen BK251.out 3; have hff251_4 := blk_frozen BK251.out 4; have hff251_5 := blk_frozen BK251.out 5; have hff251_6 := blk_frozen BK251.out 6; have hff251_7 := blk_frozen BK251.out 7; have hff251_8 := blk_frozen BK251.out 8; have hff251_9 := blk_frozen BK251.out 9; have hff251_10 := blk_frozen BK251.out 10; have hff251_11 := blk_frozen BK251.out 11; have hff251_12 := blk_frozen BK251.out 12; have hff251_13 := blk_frozen BK251.out 13; have hff251_14 := blk_frozen BK251.out 14; have hff251_15 := blk_frozen BK251.out 15; have hcf269_0 : w47f.cell? ⟨gb269, 0, none⟩ = some (.int .i64 t252) := (blk_cell BK269.out 0).trans rfl; have hcf269_1 : w47f.cell? ⟨gb269, 1, none⟩ = some (.bool t253) := (blk_cell BK269.out 1).trans rfl; have hcf269_2 : w47f.cell? ⟨gb269, 2, none⟩ = some (.bool t254) := (blk_cell BK269.out 2).trans rfl; have hcf269_3 : w47f.cell? ⟨gb269, 3, none⟩ = some (.bool t255) := (blk_cell BK269.out 3).trans rfl; have hcf269_4 : w47f.cell? ⟨gb269, 4, none⟩ = some (.bool t256) := (blk_cell BK269.out 4).trans rfl; have hcf269_5 : w47f.cell? ⟨gb269, 5, none⟩ = some (.bool t257) := (blk_cell BK269.out 5).trans rfl; have hcf269_6 : w47f.cell? ⟨gb269, 6, none⟩ = some (.bool t258) := (blk_cell BK269.out 6).trans rfl; have hcf269_7 : w47f.cell? ⟨gb269, 7, none⟩ = some (.int .i64 t259) := (blk_cell BK269.out 7).trans rfl; have hcf269_8 : w47f.cell? ⟨gb269, 8, none⟩ = some (.int .u64 t260) := (blk_cell BK269.out 8).trans rfl; have hcf269_9 : w47f.cell? ⟨gb269, 9, none⟩ = some (.int .i64 t261) := (blk_cell BK269.out 9).trans rfl; have hcf269_10 : w47f.cell? ⟨gb269, 10, none⟩ = some (.int .u64 t262) := (blk_cell BK269.out 10).trans rfl; have hcf269_11 : w47f.cell? ⟨gb269, 11, none⟩ = some (.int .i64 t263) := (blk_cell BK269.out 11).trans rfl; have hcf269_12 : w47f.cell? ⟨gb269, 12, none⟩ = some (.int .i64 t264) := (blk_cell BK269.out 12).trans rfl; have hcf269_13 : w47f.cell? ⟨gb269, 13, none⟩ = some (.int .i64 t265) := (blk_cell BK269.out 13).trans rfl; have hcf269_14 : w47f.cell? ⟨gb269, 14, none⟩ = some (.int .i64 t266) := (blk_cell BK269.out 14).trans rfl; have hcf269_15 : w47f.cell? ⟨gb269, 15, none⟩ = some (.int .i64 t267) := (blk_cell BK269.out 15).trans rfl; have hff269_0 := blk_frozen BK269.out 0; have hff269_1 := blk_frozen BK269.out 1; have hff269_2 := blk_frozen BK269.out 2; have hff269_3 := blk_frozen BK269.out 3; have hff269_4 := blk_frozen BK269.out 4; have hff269_5 := blk_frozen BK269.out 5; have hff269_6 := blk_frozen BK269.out 6; have hff269_7 := blk_frozen BK269.out 7; have hff269_8 := blk_frozen BK269.out 8; have hff269_9 := blk_frozen BK269.out 9; have hff269_10 := blk_frozen BK269.out 10; have hff269_11 := blk_frozen BK269.out 11; have hff269_12 := blk_frozen BK269.out 12; have hff269_13 := blk_frozen BK269.out 13; have hff269_14 := blk_frozen BK269.out 14; have hff269_15 := blk_frozen BK269.out 15; have hcf287_0 : w47f.cell? ⟨gb287, 0, none⟩ = some (.int .i64 t270) := (blk_cell BK287.out 0).trans rfl; have hcf287_1 : w47f.cell? ⟨gb287, 1, none⟩ = some (.bool t271) := (blk_cell BK287.out 1).trans rfl; have hcf287_2 : w47f.cell? ⟨gb287, 2, none⟩ = some (.bool t272) := (blk_cell BK287.out 2).trans rfl; have hcf287_3 : w47f.cell? ⟨gb287, 3, none⟩ = some (.bool t273) := (blk_cell BK287.out 3).trans rfl; have hcf287_4 : w47f.cell? ⟨gb287, 4, none⟩ = some (.bool t274) := (blk_cell BK287.out 4).trans rfl; have hcf287_5 : w47f.cell? ⟨gb287, 5, none⟩ = some (.bool t275) := (blk_cell BK287.out 5).trans rfl; have hcf287_6 : w47f.cell? ⟨gb287, 6, none⟩ = some (.bool t276) := (blk_cell BK287.out 6).trans rfl; have hcf287_7 : w47f.cell? ⟨gb287, 7, none⟩ = some (.int .i64 t277) := (blk_cell BK287.out 7).trans rfl; have hcf287_8 : w47f.cell? ⟨gb287, 8, none⟩ = some (.int .u64 t278) := (blk_cell BK287.out 8).trans rfl; have hcf287_9 : w47f.cell? ⟨gb287, 9, none⟩ = some (.int .i64 t279) := (blk_cell BK287.out 9).trans rfl; have hcf287_10 : w47f.cell? ⟨gb287, 10, none⟩ = some (.int .u64 t280) := (blk_cell BK287.out 10).trans rfl; have hcf287_11 : w47f.cell? ⟨gb287, 11, none⟩ = some (.int .i64 t281) := (blk_cell BK287.out 11).trans rfl; have hcf287_12 : w47f.cell? ⟨gb287, 12, none⟩ = some (.int .i64 t282) := (blk_cell BK287.out 12).trans rfl; have hcf287_13 : w47f.cell? ⟨gb287, 13, none⟩ = some (.int .i64 t283) := (blk_cell BK287.out 13).trans rfl; have hcf287_14 : w47f.cell? ⟨gb287, 14, none⟩ = some (.int .i64 t284) := (blk_cell BK287.out 14).trans rfl; have hcf287_15 : w47f.cell? ⟨gb287, 15, none⟩ = some (.int .i64 t285) := (blk_cell BK287.out 15).trans rfl; have hff287_0 := blk_frozen BK287.out 0; have hff287_1 := blk_frozen BK287.out 1; have hff287_2 := blk_frozen BK287.out 2; have hff287_3 := blk_frozen BK287.out 3; have hff287_4 := blk_frozen BK287.out 4; have hff287_5 := blk_frozen BK287.out 5; have hff287_6 := blk_frozen BK287.out 6; have hff287_7 := blk_frozen BK287.out 7; have hff287_8 := blk_frozen BK287.out 8; have hff287_9 := blk_frozen BK287.out 9; have hff287_10 := blk_frozen BK287.out 10; have hff287_11 := blk_frozen BK287.out 11; have hff287_12 := blk_frozen BK287.out 12; have hff287_13 := blk_frozen BK287.out 13; have hff287_14 := blk_frozen BK287.out 14; have hff287_15 := blk_frozen BK287.out 15; have hcf315_0 : w47f.cell? ⟨gb315, 0, none⟩ = some (.int .u64 t306) := (blk_cell BK315.out 0).trans rfl; have hcf315_1 : w47f.cell? ⟨gb315, 1, none⟩ = some (.int .u64 t307) := (blk_cell BK315.out 1).trans rfl; have hcf315_2 : w47f.cell? ⟨gb315, 2, none⟩ = some (.bool t308) := (blk_cell BK315.out 2).trans rfl; have hcf315_3 : w47f.cell? ⟨gb315, 3, none⟩ = some (.int .i64 t309) := (blk_cell BK315.out 3).trans rfl; have hcf315_4 : w47f.cell? ⟨gb315, 4, none⟩ = some (.bool false) := (blk_cell BK315.out 4).trans rfl; have hcf315_5 : w47f.cell? ⟨gb315, 5, none⟩ = some (.int .i64 0) := (blk_cell BK315.out 5).trans rfl; have hcf315_6 : w47f.cell? ⟨gb315, 6, none⟩ = some (.int .i64 0) := (blk_cell BK315.out 6).trans rfl; have hcf315_7 : w47f.cell? ⟨gb315, 7, none⟩ = some (.string (⟨#[]⟩ : ByteArray)) := (blk_cell BK315.out 7).trans rfl; have hff315_0 := blk_frozen BK315.out 0; have hff315_1 := blk_frozen BK315.out 1; have hff315_2 := blk_frozen BK315.out 2; have hff315_3 := blk_frozen BK315.out 3; have hff315_4 := blk_frozen BK315.out 4; have hff315_5 := blk_frozen BK315.out 5; have hff315_6 := blk_frozen BK315.out 6; have hff315_7 := blk_frozen BK315.out 7) | ((with_reducible refine gate_callee (f := 17) rfl ?_); refine goesL_ (some 58) rfl rfl Tryd.func17 qf rfl #[.agg #[.int .u64 t306, .int .u64 t307, .bool t308, .int .i64 t309, .bool t310, .int .i64 t311, .int .i64 t312, .string t313]] rfl qbi ?_; (with_reducible refine (bpdu_Of.calls k t306 t307 t308 t309 t310 t311 t312 t313 t316 t317 t318 t319 t320 t321 t322 t323 t324 t325 t326 t327 t328 t329 t330 t331 t332 _ A14.out).mono ?_); rintro e w52 ⟨rfl, hb⟩; refine ⟨_, rfl, ?_⟩; have n0_ := Aside0.mk (blk_below (g := gb251) (o := .cells #[.int .i64 t234, .bool t235, .bool t236, .bool t237, .bool t238, .bool t239, .bool t240, .int .i64 t241, .int .u64 t242, .int .i64 t243, .int .u64 t244, .int .i64 t245, .int .i64 t246, .int .i64 t247, .int .i64 t248, .int .i64 t249] 24 (0, 0)) (by (with_reducible repeat (first | refine blk_drewN ?_ _ | refine blk_drew ?_ | refine blk_alloc ?_ _ | refine blk_far ?_ NB251_315.out _)); exact BK251.out) hb); have n1_ := Aside0.mk (blk_below (g := gb269) (o := .cells #[.int .i64 t252, .bool t253, .bool t254, .bool t255, .bool t256, .bool t257, .bool t258, .int .i64 t259, .int .u64 t260, .int .i64 t261, .int .u64 t262, .int .i64 t263, .int .i64 t264, .int .i64 t265, .int .i64 t266, .int .i64 t267] 24 (0, 0)) (by (with_reducible repeat (first | refine blk_drewN ?_ _ | refine blk_drew ?_ | refine blk_alloc ?_ _ | refine blk_far ?_ NB269_315.out _)); exact BK269.out) hb); have n2_ := Aside0.mk (blk_below (g := gb287) (o := .cells #[.int .i64 t270, .bool t271, .bool t272, .bool t273, .bool t274, .bool t275, .bool t276, .int .i64 t277, .int .u64 t278, .int .i64 t279, .int .u64 t280, .int .i64 t281, .int .i64 t282, .int .i64 t283, .int .i64 t284, .int .i64 t285] 24 (0, 0)) (by (with_reducible repeat (first | refine blk_drewN ?_ _ | refine blk_drew ?_ | refine blk_alloc ?_ _ | refine blk_far ?_ NB287_315.out _)); exact BK287.out) hb); have n3_ := Aside0.mk (blk_below (g := gb315) (o := .cells #[.int .u64 t306, .int .u64 t307, .bool t308, .int .i64 t309, .bool t310, .int .i64 t311, .int .i64 t312, .string t313] 37 (0, 0)) (by (with_reducible repeat (first | refine blk_drewN ?_ _ | refine blk_drew ?_ | refine blk_alloc ?_ _)); exact put8_4_4 qba) hb); have n4_ := Aside0.mk (below_step qck hb); clear BK251; clear BK269; clear BK287; clear BK315; clear HB; have BK251 := n0_; have BK269 := n1_; have BK287 := n2_; have BK315 := n3_; have HB := n4_; clear n0_ n1_ n2_ n3_ n4_; obtain ⟨hcy9_251_0, hcy9_251_1, hcy9_251_2, hcy9_251_3, hcy9_251_4, hcy9_251_5, hcy9_251_6, hcy9_251_7, hcy9_251_8, hcy9_251_9, hcy9_251_10, hcy9_251_11, hcy9_251_12, hcy9_251_13, hcy9_251_14, hcy9_251_15⟩ := cells16 BK251.out; (try clear hb); (try clear hb2); (try clear hk); (try clear hi)) | ((with_reducible refine gate_dst (N := 15) rfl ?_); refine box_event ?hg (N := 15) ?hd (cs := #[.int .i64 0, .bool false, .bool false, .bool false, .bool false, .bool false, .bool false, .int .i64 0, .int .u64 0, .int .i64 0, .int .u64 0, .int .i64 0, .int .i64 0, .int .i64 0, .int .i64 0, .int .i64 0]) (t := 24) ?hr ?_; (case hd => rfl); (case hg => rfl); (case hr => first | (go_simp; done) | (go_simp; rfl)); intro gb333 hg w53 hbox hb; have n0_ := Aside0.mk (blk_below (g := gb251) qt hb); have n1_ := Aside0.mk (blk_below (g := gb269) qz hb); have n2_ := Aside0.mk (blk_below (g := gb287) q4 hb); have n3_ := Aside0.mk (blk_below (g := gb315) qba hb); have n4_ := Aside0.mk (below_step qck hb); have n5_ := Aside0.mk (hbox); have n6_ := Aside0.mk ((by rw [hg]; exact (below_size qck) : w.heap.size ≤ gb333)); have n7_ := Aside0.mk ((by rw [hg]; exact (below_size qck) : w.heap.size ≤ gb333)); have n8_ := Aside0.mk ((qc6 : gb251 ≠ gb333)); have n9_ := Aside0.mk ((qc4 : gb333 ≠ gb251)); have n10_ := Aside0.mk ((by rw [hg]; exact Nat.ne_of_lt (blk_lt (g := gb269) qz) : gb269 ≠ gb333)); have n11_ := Aside0.mk ((by rw [hg]; exact Nat.ne_of_gt (blk_lt (g := gb269) qz) : gb333 ≠ gb269)); have n12_ := Aside0.mk ((by rw [hg]; exact Nat.ne_of_lt (blk_lt (g := gb287) q4) : gb287 ≠ gb333)); have n13_ := Aside0.mk ((by rw [hg]; exact Nat.ne_of_gt (blk_lt (g := gb287) q4) : gb333 ≠ gb287)); have n14_ := Aside0.mk ((by rw [hg]; exact Nat.ne_of_lt (blk_lt (g := gb315) qba) : gb315 ≠ gb333)); have n15_ := Aside0.mk ((by rw [hg]; exact Nat.ne_of_gt (blk_lt (g := gb315) qba) : gb333 ≠ gb315)); clear BK251; clear BK269; clear BK287; clear BK315; clear HB; have BK251 := n0_; have BK269 := n1_; have BK287 := n2_; have BK315 := n3_; have HB := n4_; have BK333 := n5_; have GW333 := n6_; have GE333 := n7_; have NB251_333 := n8_; have NB333_251 := n9_; have NB269_333 := n10_; have NB333_269 := n11_; have NB287_333 := n12_; have NB333_287 := n13_; have NB315_333 := n14_; have NB333_315 := n15_; clear n0_ n1_ n2_ n3_ n4_ n5_ n6_ n7_ n8_ n9_ n10_ n11_ n12_ n13_ n14_ n15_; obtain ⟨hcy10_251_0, hcy10_251_1, hcy10_251_2, hcy10_251_3, hcy10_251_4, hcy10_251_5, hcy10_251_6, hcy10_251_7, hcy10_251_8, hcy10_251_9, hcy10_251_10, hcy10_251_11, hcy10_251_12, hcy10_251_13, hcy10_251_14, hcy10_251_15⟩ := cells16 BK251.out; clear hb hbox hg; have hnb54 := NB333_251.out; have hnc54 := NB251_333.out; have hnb55 := NB333_269.out; have hnc55 := NB269_333.out; have hnb56 := NB333_287.out; have hnc56 := NB287_333.out; have hnb57 := NB333_315.out; have hnc57 := NB315_333.out; obtain ⟨hcz58_0, hcz58_1, hcz58_2, hcz58_3, hcz58_4, hcz58_5, hcz58_6, hcz58_7, hcz58_8, hcz58_9, hcz58_10, hcz58_11, hcz58_12, hcz58_13, hcz58_14, hcz58_15⟩ := cells16 BK333.out; obtain ⟨hfz58_0, hfz58_1, hfz58_2, hfz58_3, hfz58_4, hfz58_5, hfz58_6, hfz58_7, hfz58_8, hfz58_9, hfz58_10, hfz58_11, hfz58_12, hfz58_13, hfz58_14, hfz58_15⟩ := frozen16 BK333.out))
                have n0_ : Aside0 (((((((((((((((((w53.setCell ⟨gb333, 0, none⟩ (.int .i64 t316)).setCell ⟨gb333, 1, none⟩ (.bool t317)).setCell ⟨gb333, 2, none⟩ (.bool t318)).setCell ⟨gb333, 3, none⟩ (.bool t319)).setCell ⟨gb333, 4, none⟩ (.bool t320)).setCell ⟨gb333, 5, none⟩ (.bool t321)).setCell ⟨gb333, 6, none⟩ (.bool t322)).setCell ⟨gb333, 7, none⟩ (.int .i64 t323)).setCell ⟨gb333, 8, none⟩ (.int .u64 t324)).setCell ⟨gb333, 9, none⟩ (.int .i64 t325)).setCell ⟨gb333, 10, none⟩ (.int .u64 t326)).setCell ⟨gb333, 11, none⟩ (.int .i64 t327)).setCell ⟨gb333, 12, none⟩ (.int .i64 t328)).setCell ⟨gb333, 13, none⟩ (.int .i64 t329)).setCell ⟨gb333, 14, none⟩ (.int .i64 t330)).setCell ⟨gb333, 15, none⟩ (.int .i64 t331)).heap[gb251]? = some (.cells #[.int .i64 t234, .bool t235, .bool t236, .bool t237, .bool t238, .bool t239, .bool t240, .int .i64 t241, .int .u64 t242, .int .i64 t243, .int .u64 t244, .int .i64 t245, .int .i64 t246, .int .i64 t247, .int .i64 t248, .int .i64 t249] 24 (0, 0))) := ⟨by (with_reducible repeat (first | refine blk_drewN ?_ _ | refine blk_drew ?_ | refine blk_alloc ?_ _ | refine blk_far ?_ NB251_333.out _)); exact BK251.out⟩
                have n1_ : Aside0 (((((((((((((((((w53.setCell ⟨gb333, 0, none⟩ (.int .i64 t316)).setCell ⟨gb333, 1, none⟩ (.bool t317)).setCell ⟨gb333, 2, none⟩ (.bool t318)).setCell ⟨gb333, 3, none⟩ (.bool t319)).setCell ⟨gb333, 4, none⟩ (.bool t320)).setCell ⟨gb333, 5, none⟩ (.bool t321)).setCell ⟨gb333, 6, none⟩ (.bool t322)).setCell ⟨gb333, 7, none⟩ (.int .i64 t323)).setCell ⟨gb333, 8, none⟩ (.int .u64 t324)).setCell ⟨gb333, 9, none⟩ (.int .i64 t325)).setCell ⟨gb333, 10, none⟩ (.int .u64 t326)).setCell ⟨gb333, 11, none⟩ (.int .i64 t327)).setCell ⟨gb333, 12, none⟩ (.int .i64 t328)).setCell ⟨gb333, 13, none⟩ (.int .i64 t329)).setCell ⟨gb333, 14, none⟩ (.int .i64 t330)).setCell ⟨gb333, 15, none⟩ (.int .i64 t331)).heap[gb269]? = some (.cells #[.int .i64 t252, .bool t253, .bool t254, .bool t255, .bool t256, .bool t257, .bool t258, .int .i64 t259, .int .u64 t260, .int .i64 t261, .int .u64 t262, .int .i64 t263, .int .i64 t264, .int .i64 t265, .int .i64 t266, .int .i64 t267] 24 (0, 0))) := ⟨by (with_reducible repeat (first | refine blk_drewN ?_ _ | refine blk_drew ?_ | refine blk_alloc ?_ _ | refine blk_far ?_ NB269_333.out _)); exact BK269.out⟩
                have n2_ : Aside0 (((((((((((((((((w53.setCell ⟨gb333, 0, none⟩ (.int .i64 t316)).setCell ⟨gb333, 1, none⟩ (.bool t317)).setCell ⟨gb333, 2, none⟩ (.bool t318)).setCell ⟨gb333, 3, none⟩ (.bool t319)).setCell ⟨gb333, 4, none⟩ (.bool t320)).setCell ⟨gb333, 5, none⟩ (.bool t321)).setCell ⟨gb333, 6, none⟩ (.bool t322)).setCell ⟨gb333, 7, none⟩ (.int .i64 t323)).setCell ⟨gb333, 8, none⟩ (.int .u64 t324)).setCell ⟨gb333, 9, none⟩ (.int .i64 t325)).setCell ⟨gb333, 10, none⟩ (.int .u64 t326)).setCell ⟨gb333, 11, none⟩ (.int .i64 t327)).setCell ⟨gb333, 12, none⟩ (.int .i64 t328)).setCell ⟨gb333, 13, none⟩ (.int .i64 t329)).setCell ⟨gb333, 14, none⟩ (.int .i64 t330)).setCell ⟨gb333, 15, none⟩ (.int .i64 t331)).heap[gb287]? = some (.cells #[.int .i64 t270, .bool t271, .bool t272, .bool t273, .bool t274, .bool t275, .bool t276, .int .i64 t277, .int .u64 t278, .int .i64 t279, .int .u64 t280, .int .i64 t281, .int .i64 t282, .int .i64 t283, .int .i64 t284, .int .i64 t285] 24 (0, 0))) := ⟨by (with_reducible repeat (first | refine blk_drewN ?_ _ | refine blk_drew ?_ | refine blk_alloc ?_ _ | refine blk_far ?_ NB287_333.out _)); exact BK287.out⟩
                have n3_ : Aside0 (((((((((((((((((w53.setCell ⟨gb333, 0, none⟩ (.int .i64 t316)).setCell ⟨gb333, 1, none⟩ (.bool t317)).setCell ⟨gb333, 2, none⟩ (.bool t318)).setCell ⟨gb333, 3, none⟩ (.bool t319)).setCell ⟨gb333, 4, none⟩ (.bool t320)).setCell ⟨gb333, 5, none⟩ (.bool t321)).setCell ⟨gb333, 6, none⟩ (.bool t322)).setCell ⟨gb333, 7, none⟩ (.int .i64 t323)).setCell ⟨gb333, 8, none⟩ (.int .u64 t324)).setCell ⟨gb333, 9, none⟩ (.int .i64 t325)).setCell ⟨gb333, 10, none⟩ (.int .u64 t326)).setCell ⟨gb333, 11, none⟩ (.int .i64 t327)).setCell ⟨gb333, 12, none⟩ (.int .i64 t328)).setCell ⟨gb333, 13, none⟩ (.int .i64 t329)).setCell ⟨gb333, 14, none⟩ (.int .i64 t330)).setCell ⟨gb333, 15, none⟩ (.int .i64 t331)).heap[gb315]? = some (.cells #[.int .u64 t306, .int .u64 t307, .bool t308, .int .i64 t309, .bool t310, .int .i64 t311, .int .i64 t312, .string t313] 37 (0, 0))) := ⟨by (with_reducible repeat (first | refine blk_drewN ?_ _ | refine blk_drew ?_ | refine blk_alloc ?_ _ | refine blk_far ?_ NB315_333.out _)); exact BK315.out⟩
                have n4_ : Aside0 (((((((((((((((((w53.setCell ⟨gb333, 0, none⟩ (.int .i64 t316)).setCell ⟨gb333, 1, none⟩ (.bool t317)).setCell ⟨gb333, 2, none⟩ (.bool t318)).setCell ⟨gb333, 3, none⟩ (.bool t319)).setCell ⟨gb333, 4, none⟩ (.bool t320)).setCell ⟨gb333, 5, none⟩ (.bool t321)).setCell ⟨gb333, 6, none⟩ (.bool t322)).setCell ⟨gb333, 7, none⟩ (.int .i64 t323)).setCell ⟨gb333, 8, none⟩ (.int .u64 t324)).setCell ⟨gb333, 9, none⟩ (.int .i64 t325)).setCell ⟨gb333, 10, none⟩ (.int .u64 t326)).setCell ⟨gb333, 11, none⟩ (.int .i64 t327)).setCell ⟨gb333, 12, none⟩ (.int .i64 t328)).setCell ⟨gb333, 13, none⟩ (.int .i64 t329)).setCell ⟨gb333, 14, none⟩ (.int .i64 t330)).setCell ⟨gb333, 15, none⟩ (.int .i64 t331)).heap[gb333]? = some (.cells #[.int .i64 t316, .bool t317, .bool t318, .bool t319, .bool t320, .bool t321, .bool t322, .int .i64 t323, .int .u64 t324, .int .i64 t325, .int .u64 t326, .int .i64 t327, .int .i64 t328, .int .i64 t329, .int .i64 t330, .int .i64 t331] 24 (0, 0))) := ⟨by (with_reducible repeat (first | refine blk_drewN ?_ _ | refine blk_drew ?_ | refine blk_alloc ?_ _)); exact put16_0_16 qbf⟩
                have n5_ : Aside0 (Below w.heap.size w ((((((((((((((((w53.setCell ⟨gb333, 0, none⟩ (.int .i64 t316)).setCell ⟨gb333, 1, none⟩ (.bool t317)).setCell ⟨gb333, 2, none⟩ (.bool t318)).setCell ⟨gb333, 3, none⟩ (.bool t319)).setCell ⟨gb333, 4, none⟩ (.bool t320)).setCell ⟨gb333, 5, none⟩ (.bool t321)).setCell ⟨gb333, 6, none⟩ (.bool t322)).setCell ⟨gb333, 7, none⟩ (.int .i64 t323)).setCell ⟨gb333, 8, none⟩ (.int .u64 t324)).setCell ⟨gb333, 9, none⟩ (.int .i64 t325)).setCell ⟨gb333, 10, none⟩ (.int .u64 t326)).setCell ⟨gb333, 11, none⟩ (.int .i64 t327)).setCell ⟨gb333, 12, none⟩ (.int .i64 t328)).setCell ⟨gb333, 13, none⟩ (.int .i64 t329)).setCell ⟨gb333, 14, none⟩ (.int .i64 t330)).setCell ⟨gb333, 15, none⟩ (.int .i64 t331))) := ⟨by repeat (first | (with_reducible first | exact HB.out | apply below_alloc | apply pw_below_drewN | apply below_drew1 | refine below_set ?_ GE251.out | refine below_set ?_ GE269.out | refine below_set ?_ GE287.out | refine below_set ?_ GE315.out | refine below_set ?_ GE333.out) | exact HB.out)⟩
                (try clear BK251)
                (try clear BK269)
                (try clear BK287)
                (try clear BK315)
                (try clear BK333)
                (try clear HB)
                generalize ((((((((((((((((w53.setCell ⟨gb333, 0, none⟩ (.int .i64 t316)).setCell ⟨gb333, 1, none⟩ (.bool t317)).setCell ⟨gb333, 2, none⟩ (.bool t318)).setCell ⟨gb333, 3, none⟩ (.bool t319)).setCell ⟨gb333, 4, none⟩ (.bool t320)).setCell ⟨gb333, 5, none⟩ (.bool t321)).setCell ⟨gb333, 6, none⟩ (.bool t322)).setCell ⟨gb333, 7, none⟩ (.int .i64 t323)).setCell ⟨gb333, 8, none⟩ (.int .u64 t324)).setCell ⟨gb333, 9, none⟩ (.int .i64 t325)).setCell ⟨gb333, 10, none⟩ (.int .u64 t326)).setCell ⟨gb333, 11, none⟩ (.int .i64 t327)).setCell ⟨gb333, 12, none⟩ (.int .i64 t328)).setCell ⟨gb333, 13, none⟩ (.int .i64 t329)).setCell ⟨gb333, 14, none⟩ (.int .i64 t330)).setCell ⟨gb333, 15, none⟩ (.int .i64 t331)) = w59 at n0_ n1_ n2_ n3_ n4_ n5_ ⊢
                have BK251 := n0_
                have BK269 := n1_
                have BK287 := n2_
                have BK315 := n3_
                have BK333 := n4_
                have HB := n5_
                clear n0_ n1_ n2_ n3_ n4_ n5_
                have n0_ := Aside0.mk (blk_drew BK251.out)
                have n1_ := Aside0.mk (blk_drew BK269.out)
                have n2_ := Aside0.mk (blk_drew BK287.out)
                have n3_ := Aside0.mk (blk_drew BK315.out)
                have n4_ := Aside0.mk (blk_drew BK333.out)
                have n5_ := Aside0.mk (below_drew1 HB.out)
                clear BK251
                clear BK269
                clear BK287
                clear BK315
                clear BK333
                clear HB
                have BK251 := n0_
                have BK269 := n1_
                have BK287 := n2_
                have BK315 := n3_
                have BK333 := n4_
                have HB := n5_
                clear n0_ n1_ n2_ n3_ n4_ n5_
                refine start_ (n := 54) (S := fun w' => w'.cell? ⟨gb251, 0, none⟩ = some (.int .i64 t234) ∧ w'.cell? ⟨gb251, 1, none⟩ = some (.bool t235) ∧ w'.cell? ⟨gb251, 2, none⟩ = some (.bool t236) ∧ w'.cell? ⟨gb251, 3, none⟩ = some (.bool t237) ∧ w'.cell? ⟨gb251, 4, none⟩ = some (.bool t238) ∧ w'.cell? ⟨gb251, 5, none⟩ = some (.bool t239) ∧ w'.cell? ⟨gb251, 6, none⟩ = some (.bool t240) ∧ w'.cell? ⟨gb251, 7, none⟩ = some (.int .i64 t241) ∧ w'.cell? ⟨gb251, 8, none⟩ = some (.int .u64 t242) ∧ w'.cell? ⟨gb251, 9, none⟩ = some (.int .i64 t243) ∧ w'.cell? ⟨gb251, 10, none⟩ = some (.int .u64 t244) ∧ w'.cell? ⟨gb251, 11, none⟩ = some (.int .i64 t245) ∧ w'.cell? ⟨gb251, 12, none⟩ = some (.int .i64 t246) ∧ w'.cell? ⟨gb251, 13, none⟩ = some (.int .i64 t247) ∧ w'.cell? ⟨gb251, 14, none⟩ = some (.int .i64 t248) ∧ w'.cell? ⟨gb251, 15, none⟩ = some (.int .i64 t249) ∧ w'.cell? ⟨gb315, 0, none⟩ = some (.int .u64 t306) ∧ w'.cell? ⟨gb315, 1, none⟩ = some (.int .u64 t307) ∧ w'.cell? ⟨gb315, 2, none⟩ = some (.bool t308) ∧ w'.cell? ⟨gb315, 3, none⟩ = some (.int .i64 t309) ∧ w'.cell? ⟨gb315, 4, none⟩ = some (.bool t310) ∧ w'.cell? ⟨gb315, 5, none⟩ = some (.int .i64 t311) ∧ w'.cell? ⟨gb315, 6, none⟩ = some (.int .i64 t312) ∧ w'.cell? ⟨gb315, 7, none⟩ = some (.string t313) ∧ w'.cell? ⟨gb333, 0, none⟩ = some (.int .i64 t316) ∧ w'.cell? ⟨gb333, 1, none⟩ = some (.bool t317) ∧ w'.cell? ⟨gb333, 2, none⟩ = some (.bool t318) ∧ w'.cell? ⟨gb333, 3, none⟩ = some (.bool t319) ∧ w'.cell? ⟨gb333, 4, none⟩ = some (.bool t320) ∧ w'.cell? ⟨gb333, 5, none⟩ = some (.bool t321) ∧ w'.cell? ⟨gb333, 6, none⟩ = some (.bool t322) ∧ w'.cell? ⟨gb333, 7, none⟩ = some (.int .i64 t323) ∧ w'.cell? ⟨gb333, 8, none⟩ = some (.int .u64 t324) ∧ w'.cell? ⟨gb333, 9, none⟩ = some (.int .i64 t325) ∧ w'.cell? ⟨gb333, 10, none⟩ = some (.int .u64 t326) ∧ w'.cell? ⟨gb333, 11, none⟩ = some (.int .i64 t327) ∧ w'.cell? ⟨gb333, 12, none⟩ = some (.int .i64 t328) ∧ w'.cell? ⟨gb333, 13, none⟩ = some (.int .i64 t329) ∧ w'.cell? ⟨gb333, 14, none⟩ = some (.int .i64 t330) ∧ w'.cell? ⟨gb333, 15, none⟩ = some (.int .i64 t331)) (ds := []) #[false, false, false, false, false, false, false, false, false, false, false, false, false, false, false, false, false, false, false, false, false, false, false, false, false, false, false, false, false, false, false, false, false, false, false, false, false, false, false, false, false, false, false, false, false, false, false, false, false, false, false, false, false, false] qf rfl rfl ⟨(blk_cell BK251.out 0).trans rfl, (blk_cell BK251.out 1).trans rfl, (blk_cell BK251.out 2).trans rfl, (blk_cell BK251.out 3).trans rfl, (blk_cell BK251.out 4).trans rfl, (blk_cell BK251.out 5).trans rfl, (blk_cell BK251.out 6).trans rfl, (blk_cell BK251.out 7).trans rfl, (blk_cell BK251.out 8).trans rfl, (blk_cell BK251.out 9).trans rfl, (blk_cell BK251.out 10).trans rfl, (blk_cell BK251.out 11).trans rfl, (blk_cell BK251.out 12).trans rfl, (blk_cell BK251.out 13).trans rfl, (blk_cell BK251.out 14).trans rfl, (blk_cell BK251.out 15).trans rfl, (blk_cell BK315.out 0).trans rfl, (blk_cell BK315.out 1).trans rfl, (blk_cell BK315.out 2).trans rfl, (blk_cell BK315.out 3).trans rfl, (blk_cell BK315.out 4).trans rfl, (blk_cell BK315.out 5).trans rfl, (blk_cell BK315.out 6).trans rfl, (blk_cell BK315.out 7).trans rfl, (blk_cell BK333.out 0).trans rfl, (blk_cell BK333.out 1).trans rfl, (blk_cell BK333.out 2).trans rfl, (blk_cell BK333.out 3).trans rfl, (blk_cell BK333.out 4).trans rfl, (blk_cell BK333.out 5).trans rfl, (blk_cell BK333.out 6).trans rfl, (blk_cell BK333.out 7).trans rfl, (blk_cell BK333.out 8).trans rfl, (blk_cell BK333.out 9).trans rfl, (blk_cell BK333.out 10).trans rfl, (blk_cell BK333.out 11).trans rfl, (blk_cell BK333.out 12).trans rfl, (blk_cell BK333.out 13).trans rfl, (blk_cell BK333.out 14).trans rfl, (blk_cell BK333.out 15).trans rfl⟩ (fun hHeld => ?_); refine with_tabW gangwaylaw09_fixed.tab9 gangwaylaw09_fixed.bits9 (fun HT_ HW_ => ?_)
                generalize w59.drew = w60 at BK251 BK269 BK287 BK315 BK333 HB hHeld ⊢
                refine pure_ (i := 0) (N := some 61) (v := ?_) (a' := ?_) #[true, false, false, false, false, false, false, false, false, false, false, false, false, false, false, false, false, false, false, false, false, false, false, false, false, false, false, false, false, false, false, false, false, false, false, false, false, false, false, false, false, false, false, false, false, false, false, false, false, false, false, false, false, false] rfl rfl (any_of HT_.out qf) (fun _ _ _ h => h) (Or.inl ⟨by rfl, ?_⟩) ?_ ?_
                rotate_left
                ·intro w'
                 go_simp
                 with_reducible rfl
                rotate_left
                ·exact z14_0
                refine pure_ (i := 1) (N := some 62) (v := ?_) (a' := ?_) #[true, true, false, false, false, false, false, false, false, false, false, false, false, false, false, false, false, false, false, false, false, false, false, false, false, false, false, false, false, false, false, false, false, false, false, false, false, false, false, false, false, false, false, false, false, false, false, false, false, false, false, false, false, false] rfl rfl (any_of HT_.out qf) (fun _ _ _ h => h) (Or.inl ⟨by rfl, ?_⟩) ?_ ?_
                rotate_left
                ·intro w'
                 go_simp
                 with_reducible rfl
                rotate_left
                ·exact z14_0
                refine pure_ (i := 2) (N := some 63) (v := ?_) (a' := ?_) #[true, true, true, false, false, false, false, false, false, false, false, false, false, false, false, false, false, false, false, false, false, false, false, false, false, false, false, false, false, false, false, false, false, false, false, false, false, false, false, false, false, false, false, false, false, false, false, false, false, false, false, false, false, false] rfl rfl (any_of HT_.out qf) (fun _ _ _ h => h) (Or.inl ⟨by rfl, ?_⟩) ?_ ?_
                rotate_left
                ·intro w'
                 go_simp
                 with_reducible rfl
                rotate_left
                ·exact z14_0
                refine pure_ (i := 3) (N := some 64) (v := ?_) (a' := ?_) #[true, true, true, true, false, false, false, false, false, false, false, false, false, false, false, false, false, false, false, false, false, false, false, false, false, false, false, false, false, false, false, false, false, false, false, false, false, false, false, false, false, false, false, false, false, false, false, false, false, false, false, false, false, false] rfl rfl (any_of HT_.out qf) (fun _ _ _ h => h) (Or.inl ⟨by rfl, ?_⟩) ?_ ?_
                rotate_left
                ·intro w'
                 go_simp
                 with_reducible rfl
                rotate_left
                ·exact z14_0
                refine pure_ (i := 4) (N := some 65) (v := ?_) (a' := ?_) #[true, true, true, true, true, false, false, false, false, false, false, false, false, false, false, false, false, false, false, false, false, false, false, false, false, false, false, false, false, false, false, false, false, false, false, false, false, false, false, false, false, false, false, false, false, false, false, false, false, false, false, false, false, false] rfl rfl (any_of HT_.out qf) (fun _ _ _ h => h) (Or.inl ⟨by rfl, ?_⟩) ?_ ?_
                rotate_left
                ·intro w'
                 go_simp
                 with_reducible rfl
                rotate_left
                ·exact z14_0
                refine pure_ (i := 5) (N := some 66) (v := ?_) (a' := ?_) #[true, true, true, true, true, true, false, false, false, false, false, false, false, false, false, false, false, false, false, false, false, false, false, false, false, false, false, false, false, false, false, false, false, false, false, false, false, false, false, false, false, false, false, false, false, false, false, false, false, false, false, false, false, false] rfl rfl (any_of HT_.out qf) (fun _ _ _ h => h) (Or.inl ⟨by rfl, ?_⟩) ?_ ?_
                rotate_left
                ·intro w'
                 go_simp
                 with_reducible rfl
                rotate_left
                ·exact z14_0
                refine pure_ (i := 6) (N := some 67) (v := ?_) (a' := ?_) #[true, true, true, true, true, true, true, false, false, false, false, false, false, false, false, false, false, false, false, false, false, false, false, false, false, false, false, false, false, false, false, false, false, false, false, false, false, false, false, false, false, false, false, false, false, false, false, false, false, false, false, false, false, false] rfl rfl (any_of HT_.out qf) (fun _ _ _ h => h) (Or.inl ⟨by rfl, ?_⟩) ?_ ?_
                rotate_left
                ·intro w'
                 go_simp
                 with_reducible rfl
                rotate_left
                ·exact z14_0
                refine pure_ (i := 7) (N := some 68) (v := ?_) (a' := ?_) #[true, true, true, true, true, true, true, true, false, false, false, false, false, false, false, false, false, false, false, false, false, false, false, false, false, false, false, false, false, false, false, false, false, false, false, false, false, false, false, false, false, false, false, false, false, false, false, false, false, false, false, false, false, false] rfl rfl (any_of HT_.out qf) (fun _ _ _ h => h) (Or.inl ⟨by rfl, ?_⟩) ?_ ?_
                rotate_left
                ·intro w'
                 go_simp
                 with_reducible rfl
                rotate_left
                ·exact z14_0
                refine pure_ (i := 8) (N := some 69) (v := ?_) (a' := ?_) #[true, true, true, true, true, true, true, true, true, false, false, false, false, false, false, false, false, false, false, false, false, false, false, false, false, false, false, false, false, false, false, false, false, false, false, false, false, false, false, false, false, false, false, false, false, false, false, false, false, false, false, false, false, false] rfl rfl (any_of HT_.out qf) (fun _ _ _ h => h) (Or.inl ⟨by rfl, ?_⟩) ?_ ?_
                rotate_left
                ·intro w'
                 go_simp
                 with_reducible rfl
                rotate_left
                ·exact z14_0
                refine pure_ (i := 9) (N := some 70) (v := ?_) (a' := ?_) #[true, true, true, true, true, true, true, true, true, true, false, false, false, false, false, false, false, false, false, false, false, false, false, false, false, false, false, false, false, false, false, false, false, false, false, false, false, false, false, false, false, false, false, false, false, false, false, false, false, false, false, false, false, false] rfl rfl (any_of HT_.out qf) (fun _ _ _ h => h) (Or.inl ⟨by rfl, ?_⟩) ?_ ?_
                rotate_left
                ·intro w'
                 go_simp
                 with_reducible rfl
                rotate_left
                ·exact z14_0
                refine pure_ (i := 10) (N := some 71) (v := ?_) (a' := ?_) #[true, true, true, true, true, true, true, true, true, true, true, false, false, false, false, false, false, false, false, false, false, false, false, false, false, false, false, false, false, false, false, false, false, false, false, false, false, false, false, false, false, false, false, false, false, false, false, false, false, false, false, false, false, false] rfl rfl (any_of HT_.out qf) (fun _ _ _ h => h) (Or.inl ⟨by rfl, ?_⟩) ?_ ?_
                rotate_left
                ·intro w'
                 go_simp
                 with_reducible rfl
                rotate_left
                ·exact z14_0
                refine pure_ (i := 11) (N := some 72) (v := ?_) (a' := ?_) #[true, true, true, true, true, true, true, true, true, true, true, true, false, false, false, false, false, false, false, false, false, false, false, false, false, false, false, false, false, false, false, false, false, false, false, false, false, false, false, false, false, false, false, false, false, false, false, false, false, false, false, false, false, false] rfl rfl (any_of HT_.out qf) (fun _ _ _ h => h) (Or.inl ⟨by rfl, ?_⟩) ?_ ?_
                rotate_left
                ·intro w'
                 go_simp
                 with_reducible rfl
                rotate_left
                ·exact z14_0
                refine pure_ (i := 12) (N := some 73) (v := ?_) (a' := ?_) #[true, true, true, true, true, true, true, true, true, true, true, true, true, false, false, false, false, false, false, false, false, false, false, false, false, false, false, false, false, false, false, false, false, false, false, false, false, false, false, false, false, false, false, false, false, false, false, false, false, false, false, false, false, false] rfl rfl (any_of HT_.out qf) (fun _ _ _ h => h) (Or.inl ⟨by rfl, ?_⟩) ?_ ?_
                rotate_left
                ·intro w'
                 go_simp
                 with_reducible rfl
                rotate_left
                ·exact z14_0
                refine pure_ (i := 13) (N := some 74) (v := ?_) (a' := ?_) #[true, true, true, true, true, true, true, true, true, true, true, true, true, true, false, false, false, false, false, false, false, false, false, false, false, false, false, false, false, false, false, false, false, false, false, false, false, false, false, false, false, false, false, false, false, false, false, false, false, false, false, false, false, false] rfl rfl (any_of HT_.out qf) (fun _ _ _ h => h) (Or.inl ⟨by rfl, ?_⟩) ?_ ?_
                rotate_left
                ·intro w'
                 go_simp
                 with_reducible rfl
                rotate_left
                ·exact z14_0
                refine pure_ (i := 14) (N := some 75) (v := ?_) (a' := ?_) #[true, true, true, true, true, true, true, true, true, true, true, true, true, true, true, false, false, false, false, false, false, false, false, false, false, false, false, false, false, false, false, false, false, false, false, false, false, false, false, false, false, false, false, false, false, false, false, false, false, false, false, false, false, false] rfl rfl (any_of HT_.out qf) (fun _ _ _ h => h) (Or.inl ⟨by rfl, ?_⟩) ?_ ?_
                rotate_left
                ·intro w'
                 go_simp
                 with_reducible rfl
                rotate_left
                ·exact z14_0
                refine pure_ (i := 15) (N := some 76) (v := ?_) (a' := ?_) #[true, true, true, true, true, true, true, true, true, true, true, true, true, true, true, true, false, false, false, false, false, false, false, false, false, false, false, false, false, false, false, false, false, false, false, false, false, false, false, false, false, false, false, false, false, false, false, false, false, false, false, false, false, false] rfl rfl (any_of HT_.out qf) (fun _ _ _ h => h) (Or.inl ⟨by rfl, ?_⟩) ?_ ?_
                rotate_left
                ·intro w'
                 go_simp
                 with_reducible rfl
                rotate_left
                ·exact z14_0
                refine take_ (i := 16) (N := some 77) (v := ?_) (a' := ?_) #[true, true, true, true, true, true, true, true, true, true, true, true, true, true, true, true, true, false, false, false, false, false, false, false, false, false, false, false, false, false, false, false, false, false, false, false, false, false, false, false, false, false, false, false, false, false, false, false, false, false, false, false, false, false] rfl rfl (take_ofW HT_.out HW_.out qf) (fun _ _ _ h => h) (Or.inl ⟨by rfl, ?_⟩) hHeld ?_ ?_
                rotate_left
                ·exact z14_1
                rotate_left
                ·exact z14_0
                refine one_ (i := 17) (N := some 78) #[true, true, true, true, true, true, true, true, true, true, true, true, true, true, true, true, true, true, false, false, false, false, false, false, false, false, false, false, false, false, false, false, false, false, false, false, false, false, false, false, false, false, false, false, false, false, false, false, false, false, false, false, false, false] rfl rfl (one_of HT_.out qf) qd (fun K hK => ?_)
                refine goes_ Tryd.func23 qf rfl #[] qcx rfl rfl qbi ?_
                with_reducible refine (gangwaylaw09_rapid.calls  t334 t335 t336 t337 t338 t339 t340 t341 t342 t343 t344 t345 t346 t347 t348 t349 _ A19.out).mono ?_
                rintro e w61 ⟨rfl, hb⟩
                refine ⟨_, rfl, ?_⟩
                have n0_ := Aside0.mk (blk_below (g := gb251) (o := .cells #[.int .i64 t234, .bool t235, .bool t236, .bool t237, .bool t238, .bool t239, .bool t240, .int .i64 t241, .int .u64 t242, .int .i64 t243, .int .u64 t244, .int .i64 t245, .int .i64 t246, .int .i64 t247, .int .i64 t248, .int .i64 t249] 24 (0, 0)) qt hb)
                have n1_ := Aside0.mk (blk_below (g := gb269) (o := .cells #[.int .i64 t252, .bool t253, .bool t254, .bool t255, .bool t256, .bool t257, .bool t258, .int .i64 t259, .int .u64 t260, .int .i64 t261, .int .u64 t262, .int .i64 t263, .int .i64 t264, .int .i64 t265, .int .i64 t266, .int .i64 t267] 24 (0, 0)) qz hb)
                have n2_ := Aside0.mk (blk_below (g := gb287) (o := .cells #[.int .i64 t270, .bool t271, .bool t272, .bool t273, .bool t274, .bool t275, .bool t276, .int .i64 t277, .int .u64 t278, .int .i64 t279, .int .u64 t280, .int .i64 t281, .int .i64 t282, .int .i64 t283, .int .i64 t284, .int .i64 t285] 24 (0, 0)) q4 hb)
                have n3_ := Aside0.mk (blk_below (g := gb315) (o := .cells #[.int .u64 t306, .int .u64 t307, .bool t308, .int .i64 t309, .bool t310, .int .i64 t311, .int .i64 t312, .string t313] 37 (0, 0)) qba hb)
                have n4_ := Aside0.mk (blk_below (g := gb333) (o := .cells #[.int .i64 t316, .bool t317, .bool t318, .bool t319, .bool t320, .bool t321, .bool t322, .int .i64 t323, .int .u64 t324, .int .i64 t325, .int .u64 t326, .int .i64 t327, .int .i64 t328, .int .i64 t329, .int .i64 t330, .int .i64 t331] 24 (0, 0)) qbf hb)
                have n5_ := Aside0.mk (below_step qco hb)
                clear BK251
                clear BK269
                clear BK287
                clear BK315
                clear BK333
                clear HB
                have BK251 := n0_
                have BK269 := n1_
                have BK287 := n2_
                have BK315 := n3_
                have BK333 := n4_
                have HB := n5_
                clear n0_ n1_ n2_ n3_ n4_ n5_
                (try clear hb)
                (try clear hb2)
                (try clear hk)
                (try clear hi)
                refine hK.out _ _ ⟨(blk_cell BK251.out 0).trans rfl, (blk_cell BK251.out 1).trans rfl, (blk_cell BK251.out 2).trans rfl, (blk_cell BK251.out 3).trans rfl, (blk_cell BK251.out 4).trans rfl, (blk_cell BK251.out 5).trans rfl, (blk_cell BK251.out 6).trans rfl, (blk_cell BK251.out 7).trans rfl, (blk_cell BK251.out 8).trans rfl, (blk_cell BK251.out 9).trans rfl, (blk_cell BK251.out 10).trans rfl, (blk_cell BK251.out 11).trans rfl, (blk_cell BK251.out 12).trans rfl, (blk_cell BK251.out 13).trans rfl, (blk_cell BK251.out 14).trans rfl, (blk_cell BK251.out 15).trans rfl, (blk_cell BK315.out 0).trans rfl, (blk_cell BK315.out 1).trans rfl, (blk_cell BK315.out 2).trans rfl, (blk_cell BK315.out 3).trans rfl, (blk_cell BK315.out 4).trans rfl, (blk_cell BK315.out 5).trans rfl, (blk_cell BK315.out 6).trans rfl, (blk_cell BK315.out 7).trans rfl, (blk_cell BK333.out 0).trans rfl, (blk_cell BK333.out 1).trans rfl, (blk_cell BK333.out 2).trans rfl, (blk_cell BK333.out 3).trans rfl, (blk_cell BK333.out 4).trans rfl, (blk_cell BK333.out 5).trans rfl, (blk_cell BK333.out 6).trans rfl, (blk_cell BK333.out 7).trans rfl, (blk_cell BK333.out 8).trans rfl, (blk_cell BK333.out 9).trans rfl, (blk_cell BK333.out 10).trans rfl, (blk_cell BK333.out 11).trans rfl, (blk_cell BK333.out 12).trans rfl, (blk_cell BK333.out 13).trans rfl, (blk_cell BK333.out 14).trans rfl, (blk_cell BK333.out 15).trans rfl⟩ (fun hHeld => ?_)
                clear hK K
                refine norm_ (a' := ?_) ?_ ?_
                rotate_left
                ·show Act.put _ (some 78) _ = _
                 simp only [Act.put, List.setIfInBounds_toArray, List.set_cons_zero, List.set_cons_succ, i64_w, i32_w]
                 rfl
                refine pure_ (i := 18) (N := some 79) (v := ?_) (a' := ?_) #[true, true, true, true, true, true, true, true, true, true, true, true, true, true, true, true, true, true, true, false, false, false, false, false, false, false, false, false, false, false, false, false, false, false, false, false, false, false, false, false, false, false, false, false, false, false, false, false, false, false, false, false, false, false] rfl rfl (any_of HT_.out qf) (fun _ _ _ h => h) (Or.inl ⟨by rfl, ?_⟩) ?_ ?_
                rotate_left
                ·intro w'
                 go_simp
                 with_reducible rfl
                rotate_left
                ·exact z14_0
                refine pure_ (i := 19) (N := some 80) (v := ?_) (a' := ?_) #[true, true, true, true, true, true, true, true, true, true, true, true, true, true, true, true, true, true, true, true, false, false, false, false, false, false, false, false, false, false, false, false, false, false, false, false, false, false, false, false, false, false, false, false, false, false, false, false, false, false, false, false, false, false] rfl rfl (any_of HT_.out qf) (fun _ _ _ h => h) (Or.inl ⟨by rfl, ?_⟩) ?_ ?_
                rotate_left
                ·intro w'
                 go_simp
                 with_reducible rfl
                rotate_left
                ·exact z14_0
                refine pure_ (i := 20) (N := some 81) (v := ?_) (a' := ?_) #[true, true, true, true, true, true, true, true, true, true, true, true, true, true, true, true, true, true, true, true, true, false, false, false, false, false, false, false, false, false, false, false, false, false, false, false, false, false, false, false, false, false, false, false, false, false, false, false, false, false, false, false, false, false] rfl rfl (any_of HT_.out qf) (fun _ _ _ h => h) (Or.inl ⟨by rfl, ?_⟩) ?_ ?_
                rotate_left
                ·intro w'
                 go_simp
                 with_reducible rfl
                rotate_left
                ·exact z14_0
                refine pure_ (i := 21) (N := some 82) (v := ?_) (a' := ?_) #[true, true, true, true, true, true, true, true, true, true, true, true, true, true, true, true, true, true, true, true, true, true, false, false, false, false, false, false, false, false, false, false, false, false, false, false, false, false, false, false, false, false, false, false, false, false, false, false, false, false, false, false, false, false] rfl rfl (any_of HT_.out qf) (fun _ _ _ h => h) (Or.inl ⟨by rfl, ?_⟩) ?_ ?_
                rotate_left
                ·intro w'
                 go_simp
                 with_reducible rfl
                rotate_left
                ·exact z14_0
                refine pure_ (i := 22) (N := some 83) (v := ?_) (a' := ?_) #[true, true, true, true, true, true, true, true, true, true, true, true, true, true, true, true, true, true, true, true, true, true, true, false, false, false, false, false, false, false, false, false, false, false, false, false, false, false, false, false, false, false, false, false, false, false, false, false, false, false, false, false, false, false] rfl rfl (any_of HT_.out qf) (fun _ _ _ h => h) (Or.inl ⟨by rfl, ?_⟩) ?_ ?_
                rotate_left
                ·intro w'
                 go_simp
                 with_reducible rfl
                rotate_left
                ·exact z14_0
                refine pure_ (i := 23) (N := some 84) (v := ?_) (a' := ?_) #[true, true, true, true, true, true, true, true, true, true, true, true, true, true, true, true, true, true, true, true, true, true, true, true, false, false, false, false, false, false, false, false, false, false, false, false, false, false, false, false, false, false, false, false, false, false, false, false, false, false, false, false, false, false] rfl rfl (any_of HT_.out qf) (fun _ _ _ h => h) (Or.inl ⟨by rfl, ?_⟩) ?_ ?_
                rotate_left
                ·intro w'
                 go_simp
                 with_reducible rfl
                rotate_left
                ·exact z14_0
                refine pure_ (i := 24) (N := some 85) (v := ?_) (a' := ?_) #[true, true, true, true, true, true, true, true, true, true, true, true, true, true, true, true, true, true, true, true, true, true, true, true, true, false, false, false, false, false, false, false, false, false, false, false, false, false, false, false, false, false, false, false, false, false, false, false, false, false, false, false, false, false] rfl rfl (any_of HT_.out qf) (fun _ _ _ h => h) (Or.inl ⟨by rfl, ?_⟩) ?_ ?_
                rotate_left
                ·intro w'
                 go_simp
                 with_reducible rfl
                rotate_left
                ·exact z14_0
                refine pure_ (i := 25) (N := some 86) (v := ?_) (a' := ?_) #[true, true, true, true, true, true, true, true, true, true, true, true, true, true, true, true, true, true, true, true, true, true, true, true, true, true, false, false, false, false, false, false, false, false, false, false, false, false, false, false, false, false, false, false, false, false, false, false, false, false, false, false, false, false] rfl rfl (any_of HT_.out qf) (fun _ _ _ h => h) (Or.inl ⟨by rfl, ?_⟩) ?_ ?_
                rotate_left
                ·intro w'
                 go_simp
                 with_reducible rfl
                rotate_left
                ·exact z14_0
                refine pure_ (i := 26) (N := some 87) (v := ?_) (a' := ?_) #[true, true, true, true, true, true, true, true, true, true, true, true, true, true, true, true, true, true, true, true, true, true, true, true, true, true, true, false, false, false, false, false, false, false, false, false, false, false, false, false, false, false, false, false, false, false, false, false, false, false, false, false, false, false] rfl rfl (any_of HT_.out qf) (fun _ _ _ h => h) (Or.inl ⟨by rfl, ?_⟩) ?_ ?_
                rotate_left
                ·intro w'
                 go_simp
                 with_reducible rfl
                rotate_left
                ·exact z14_0
                refine pure_ (i := 27) (N := some 88) (v := ?_) (a' := ?_) #[true, true, true, true, true, true, true, true, true, true, true, true, true, true, true, true, true, true, true, true, true, true, true, true, true, true, true, true, false, false, false, false, false, false, false, false, false, false, false, false, false, false, false, false, false, false, false, false, false, false, false, false, false, false] rfl rfl (any_of HT_.out qf) (fun _ _ _ h => h) (Or.inl ⟨by rfl, ?_⟩) ?_ ?_
                rotate_left
                ·intro w'
                 go_simp
                 with_reducible rfl
                rotate_left
                ·exact z14_0
                refine pure_ (i := 28) (N := some 89) (v := ?_) (a' := ?_) #[true, true, true, true, true, true, true, true, true, true, true, true, true, true, true, true, true, true, true, true, true, true, true, true, true, true, true, true, true, false, false, false, false, false, false, false, false, false, false, false, false, false, false, false, false, false, false, false, false, false, false, false, false, false] rfl rfl (any_of HT_.out qf) (fun _ _ _ h => h) (Or.inl ⟨by rfl, ?_⟩) ?_ ?_
                rotate_left
                ·intro w'
                 go_simp
                 with_reducible rfl
                rotate_left
                ·exact z14_0
                refine pure_ (i := 29) (N := some 90) (v := ?_) (a' := ?_) #[true, true, true, true, true, true, true, true, true, true, true, true, true, true, true, true, true, true, true, true, true, true, true, true, true, true, true, true, true, true, false, false, false, false, false, false, false, false, false, false, false, false, false, false, false, false, false, false, false, false, false, false, false, false] rfl rfl (any_of HT_.out qf) (fun _ _ _ h => h) (Or.inl ⟨by rfl, ?_⟩) ?_ ?_
                rotate_left
                ·intro w'
                 go_simp
                 with_reducible rfl
                rotate_left
                ·exact z14_0
                refine pure_ (i := 30) (N := some 91) (v := ?_) (a' := ?_) #[true, true, true, true, true, true, true, true, true, true, true, true, true, true, true, true, true, true, true, true, true, true, true, true, true, true, true, true, true, true, true, false, false, false, false, false, false, false, false, false, false, false, false, false, false, false, false, false, false, false, false, false, false, false] rfl rfl (any_of HT_.out qf) (fun _ _ _ h => h) (Or.inl ⟨by rfl, ?_⟩) ?_ ?_
                rotate_left
                ·intro w'
                 go_simp
                 with_reducible rfl
                rotate_left
                ·exact z14_0
                refine pure_ (i := 31) (N := some 92) (v := ?_) (a' := ?_) #[true, true, true, true, true, true, true, true, true, true, true, true, true, true, true, true, true, true, true, true, true, true, true, true, true, true, true, true, true, true, true, true, false, false, false, false, false, false, false, false, false, false, false, false, false, false, false, false, false, false, false, false, false, false] rfl rfl (any_of HT_.out qf) (fun _ _ _ h => h) (Or.inl ⟨by rfl, ?_⟩) ?_ ?_
                rotate_left
                ·intro w'
                 go_simp
                 with_reducible rfl
                rotate_left
                ·exact z14_0
                refine pure_ (i := 32) (N := some 93) (v := ?_) (a' := ?_) #[true, true, true, true, true, true, true, true, true, true, true, true, true, true, true, true, true, true, true, true, true, true, true, true, true, true, true, true, true, true, true, true, true, false, false, false, false, false, false, false, false, false, false, false, false, false, false, false, false, false, false, false, false, false] rfl rfl (any_of HT_.out qf) (fun _ _ _ h => h) (Or.inl ⟨by rfl, ?_⟩) ?_ ?_
                rotate_left
                ·intro w'
                 go_simp
                 with_reducible rfl
                rotate_left
                ·exact z14_0
                refine pure_ (i := 33) (N := some 94) (v := ?_) (a' := ?_) #[true, true, true, true, true, true, true, true, true, true, true, true, true, true, true, true, true, true, true, true, true, true, true, true, true, true, true, true, true, true, true, true, true, true, false, false, false, false, false, false, false, false, false, false, false, false, false, false, false, false, false, false, false, false] rfl rfl (any_of HT_.out qf) (fun _ _ _ h => h) (Or.inl ⟨by rfl, ?_⟩) ?_ ?_
                rotate_left
                ·intro w'
                 go_simp
                 with_reducible rfl
                rotate_left
                ·exact z14_0
                refine pure_ (i := 34) (N := some 95) (v := ?_) (a' := ?_) #[true, true, true, true, true, true, true, true, true, true, true, true, true, true, true, true, true, true, true, true, true, true, true, true, true, true, true, true, true, true, true, true, true, true, true, false, false, false, false, false, false, false, false, false, false, false, false, false, false, false, false, false, false, false] rfl rfl (any_of HT_.out qf) (fun _ _ _ h => h) (Or.inl ⟨by rfl, ?_⟩) ?_ ?_
                rotate_left
                ·intro w'
                 go_simp
                 with_reducible rfl
                rotate_left
                ·exact z14_0
                refine pure_ (i := 35) (N := some 96) (v := ?_) (a' := ?_) #[true, true, true, true, true, true, true, true, true, true, true, true, true, true, true, true, true, true, true, true, true, true, true, true, true, true, true, true, true, true, true, true, true, true, true, true, false, false, false, false, false, false, false, false, false, false, false, false, false, false, false, false, false, false] rfl rfl (any_of HT_.out qf) (fun _ _ _ h => h) (Or.inl ⟨by rfl, ?_⟩) ?_ ?_
                rotate_left
                ·intro w'
                 go_simp
                 with_reducible rfl
                rotate_left
                ·exact z14_0
                refine pure_ (i := 36) (N := some 97) (v := ?_) (a' := ?_) #[true, true, true, true, true, true, true, true, true, true, true, true, true, true, true, true, true, true, true, true, true, true, true, true, true, true, true, true, true, true, true, true, true, true, true, true, true, false, false, false, false, false, false, false, false, false, false, false, false, false, false, false, false, false] rfl rfl (any_of HT_.out qf) (fun _ _ _ h => h) (Or.inl ⟨by rfl, ?_⟩) ?_ ?_
                rotate_left
                ·intro w'
                 go_simp
                 with_reducible rfl
                rotate_left
                ·exact z14_0
                refine pure_ (i := 37) (N := some 98) (v := ?_) (a' := ?_) #[true, true, true, true, true, true, true, true, true, true, true, true, true, true, true, true, true, true, true, true, true, true, true, true, true, true, true, true, true, true, true, true, true, true, true, true, true, true, false, false, false, false, false, false, false, false, false, false, false, false, false, false, false, false] rfl rfl (any_of HT_.out qf) (fun _ _ _ h => h) (Or.inl ⟨by rfl, ?_⟩) ?_ ?_
                rotate_left
                ·intro w'
                 go_simp
                 with_reducible rfl
                rotate_left
                ·exact z14_0
                refine take_ (i := 38) (N := some 99) (v := ?_) (a' := ?_) #[true, true, true, true, true, true, true, true, true, true, true, true, true, true, true, true, true, true, true, true, true, true, true, true, true, true, true, true, true, true, true, true, true, true, true, true, true, true, true, false, false, false, false, false, false, false, false, false, false, false, false, false, false, false] rfl rfl (take_ofW HT_.out HW_.out qf) (fun _ _ _ h => h) (Or.inl ⟨by rfl, ?_⟩) hHeld ?_ ?_
                rotate_left
                ·exact z14_1
                rotate_left
                ·exact z14_0
                refine pure_ (i := 39) (N := some 100) (v := ?_) (a' := ?_) #[true, true, true, true, true, true, true, true, true, true, true, true, true, true, true, true, true, true, true, true, true, true, true, true, true, true, true, true, true, true, true, true, true, true, true, true, true, true, true, true, false, false, false, false, false, false, false, false, false, false, false, false, false, false] rfl rfl (any_of HT_.out qf) (fun _ _ _ h => h) (Or.inl ⟨by rfl, ?_⟩) ?_ ?_
                rotate_left
                ·intro w'
                 go_simp
                 with_reducible rfl
                rotate_left
                ·exact z14_0
                refine pure_ (i := 40) (N := some 101) (v := ?_) (a' := ?_) #[true, true, true, true, true, true, true, true, true, true, true, true, true, true, true, true, true, true, true, true, true, true, true, true, true, true, true, true, true, true, true, true, true, true, true, true, true, true, true, true, true, false, false, false, false, false, false, false, false, false, false, false, false, false] rfl rfl (any_of HT_.out qf) (fun _ _ _ h => h) (Or.inl ⟨by rfl, ?_⟩) ?_ ?_
                rotate_left
                ·intro w'
                 go_simp
                 with_reducible rfl
                rotate_left
                ·exact z14_0
                refine pure_ (i := 41) (N := some 102) (v := ?_) (a' := ?_) #[true, true, true, true, true, true, true, true, true, true, true, true, true, true, true, true, true, true, true, true, true, true, true, true, true, true, true, true, true, true, true, true, true, true, true, true, true, true, true, true, true, true, false, false, false, false, false, false, false, false, false, false, false, false] rfl rfl (any_of HT_.out qf) (fun _ _ _ h => h) (Or.inl ⟨by rfl, ?_⟩) ?_ ?_
                rotate_left
                ·intro w'
                 go_simp
                 with_reducible rfl
                rotate_left
                ·exact z14_0
                refine pure_ (i := 42) (N := some 103) (v := ?_) (a' := ?_) #[true, true, true, true, true, true, true, true, true, true, true, true, true, true, true, true, true, true, true, true, true, true, true, true, true, true, true, true, true, true, true, true, true, true, true, true, true, true, true, true, true, true, true, false, false, false, false, false, false, false, false, false, false, false] rfl rfl (any_of HT_.out qf) (fun _ _ _ h => h) (Or.inl ⟨by rfl, ?_⟩) ?_ ?_
                rotate_left
                ·intro w'
                 go_simp
                 with_reducible rfl
                rotate_left
                ·exact z14_0
                refine pure_ (i := 43) (N := some 104) (v := ?_) (a' := ?_) #[true, true, true, true, true, true, true, true, true, true, true, true, true, true, true, true, true, true, true, true, true, true, true, true, true, true, true, true, true, true, true, true, true, true, true, true, true, true, true, true, true, true, true, true, false, false, false, false, false, false, false, false, false, false] rfl rfl (any_of HT_.out qf) (fun _ _ _ h => h) (Or.inl ⟨by rfl, ?_⟩) ?_ ?_
                rotate_left
                ·intro w'
                 go_simp
                 with_reducible rfl
                rotate_left
                ·exact z14_0
                refine pure_ (i := 44) (N := some 105) (v := ?_) (a' := ?_) #[true, true, true, true, true, true, true, true, true, true, true, true, true, true, true, true, true, true, true, true, true, true, true, true, true, true, true, true, true, true, true, true, true, true, true, true, true, true, true, true, true, true, true, true, true, false, false, false, false, false, false, false, false, false] rfl rfl (any_of HT_.out qf) (fun _ _ _ h => h) (Or.inl ⟨by rfl, ?_⟩) ?_ ?_
                rotate_left
                ·intro w'
                 go_simp
                 with_reducible rfl
                rotate_left
                ·exact z14_0
                refine pure_ (i := 45) (N := some 106) (v := ?_) (a' := ?_) #[true, true, true, true, true, true, true, true, true, true, true, true, true, true, true, true, true, true, true, true, true, true, true, true, true, true, true, true, true, true, true, true, true, true, true, true, true, true, true, true, true, true, true, true, true, true, false, false, false, false, false, false, false, false] rfl rfl (any_of HT_.out qf) (fun _ _ _ h => h) (Or.inl ⟨by rfl, ?_⟩) ?_ ?_
                rotate_left
                ·intro w'
                 go_simp
                 with_reducible rfl
                rotate_left
                ·exact z14_0
                refine take_ (i := 46) (N := some 107) (v := ?_) (a' := ?_) #[true, true, true, true, true, true, true, true, true, true, true, true, true, true, true, true, true, true, true, true, true, true, true, true, true, true, true, true, true, true, true, true, true, true, true, true, true, true, true, true, true, true, true, true, true, true, true, false, false, false, false, false, false, false] rfl rfl (take_ofW HT_.out HW_.out qf) (fun _ _ _ h => h) (Or.inl ⟨by rfl, ?_⟩) hHeld ?_ ?_
                rotate_left
                ·exact z14_1
                rotate_left
                ·exact z14_0
                refine one_ (i := 47) (N := some 108) #[true, true, true, true, true, true, true, true, true, true, true, true, true, true, true, true, true, true, true, true, true, true, true, true, true, true, true, true, true, true, true, true, true, true, true, true, true, true, true, true, true, true, true, true, true, true, true, true, false, false, false, false, false, false] rfl rfl (one_of HT_.out qf) qd (fun K hK => ?_)
                refine goes_ Tryd.func23 qf rfl #[] qcx rfl rfl qbi ?_
                with_reducible refine (gangwaylaw09_rapid.calls  t350 t351 t352 t353 t354 t355 t356 t357 t358 t359 t360 t361 t362 t363 t364 t365 _ A27.out).mono ?_
                rintro e w62 ⟨rfl, hb⟩
                refine ⟨_, rfl, ?_⟩
                have n0_ := Aside0.mk (blk_below (g := gb251) (o := .cells #[.int .i64 t234, .bool t235, .bool t236, .bool t237, .bool t238, .bool t239, .bool t240, .int .i64 t241, .int .u64 t242, .int .i64 t243, .int .u64 t244, .int .i64 t245, .int .i64 t246, .int .i64 t247, .int .i64 t248, .int .i64 t249] 24 (0, 0)) qt hb)
                have n1_ := Aside0.mk (blk_below (g := gb269) (o := .cells #[.int .i64 t252, .bool t253, .bool t254, .bool t255, .bool t256, .bool t257, .bool t258, .int .i64 t259, .int .u64 t260, .int .i64 t261, .int .u64 t262, .int .i64 t263, .int .i64 t264, .int .i64 t265, .int .i64 t266, .int .i64 t267] 24 (0, 0)) qz hb)
                have n2_ := Aside0.mk (blk_below (g := gb287) (o := .cells #[.int .i64 t270, .bool t271, .bool t272, .bool t273, .bool t274, .bool t275, .bool t276, .int .i64 t277, .int .u64 t278, .int .i64 t279, .int .u64 t280, .int .i64 t281, .int .i64 t282, .int .i64 t283, .int .i64 t284, .int .i64 t285] 24 (0, 0)) q4 hb)
                have n3_ := Aside0.mk (blk_below (g := gb315) (o := .cells #[.int .u64 t306, .int .u64 t307, .bool t308, .int .i64 t309, .bool t310, .int .i64 t311, .int .i64 t312, .string t313] 37 (0, 0)) qba hb)
                have n4_ := Aside0.mk (blk_below (g := gb333) (o := .cells #[.int .i64 t316, .bool t317, .bool t318, .bool t319, .bool t320, .bool t321, .bool t322, .int .i64 t323, .int .u64 t324, .int .i64 t325, .int .u64 t326, .int .i64 t327, .int .i64 t328, .int .i64 t329, .int .i64 t330, .int .i64 t331] 24 (0, 0)) qbf hb)
                have n5_ := Aside0.mk (below_step qco hb)
                clear BK251
                clear BK269
                clear BK287
                clear BK315
                clear BK333
                clear HB
                have BK251 := n0_
                have BK269 := n1_
                have BK287 := n2_
                have BK315 := n3_
                have BK333 := n4_
                have HB := n5_
                clear n0_ n1_ n2_ n3_ n4_ n5_
                (try clear hb)
                (try clear hb2)
                (try clear hk)
                (try clear hi)
                refine hK.out _ _ ⟨(blk_cell BK251.out 0).trans rfl, (blk_cell BK251.out 1).trans rfl, (blk_cell BK251.out 2).trans rfl, (blk_cell BK251.out 3).trans rfl, (blk_cell BK251.out 4).trans rfl, (blk_cell BK251.out 5).trans rfl, (blk_cell BK251.out 6).trans rfl, (blk_cell BK251.out 7).trans rfl, (blk_cell BK251.out 8).trans rfl, (blk_cell BK251.out 9).trans rfl, (blk_cell BK251.out 10).trans rfl, (blk_cell BK251.out 11).trans rfl, (blk_cell BK251.out 12).trans rfl, (blk_cell BK251.out 13).trans rfl, (blk_cell BK251.out 14).trans rfl, (blk_cell BK251.out 15).trans rfl, (blk_cell BK315.out 0).trans rfl, (blk_cell BK315.out 1).trans rfl, (blk_cell BK315.out 2).trans rfl, (blk_cell BK315.out 3).trans rfl, (blk_cell BK315.out 4).trans rfl, (blk_cell BK315.out 5).trans rfl, (blk_cell BK315.out 6).trans rfl, (blk_cell BK315.out 7).trans rfl, (blk_cell BK333.out 0).trans rfl, (blk_cell BK333.out 1).trans rfl, (blk_cell BK333.out 2).trans rfl, (blk_cell BK333.out 3).trans rfl, (blk_cell BK333.out 4).trans rfl, (blk_cell BK333.out 5).trans rfl, (blk_cell BK333.out 6).trans rfl, (blk_cell BK333.out 7).trans rfl, (blk_cell BK333.out 8).trans rfl, (blk_cell BK333.out 9).trans rfl, (blk_cell BK333.out 10).trans rfl, (blk_cell BK333.out 11).trans rfl, (blk_cell BK333.out 12).trans rfl, (blk_cell BK333.out 13).trans rfl, (blk_cell BK333.out 14).trans rfl, (blk_cell BK333.out 15).trans rfl⟩ (fun hHeld => ?_)
                clear hK K
                refine norm_ (a' := ?_) ?_ ?_
                rotate_left
                ·show Act.put _ (some 108) _ = _
                 simp only [Act.put, List.setIfInBounds_toArray, List.set_cons_zero, List.set_cons_succ, i64_w, i32_w]
                 rfl
                refine pure_ (i := 48) (N := some 109) (v := ?_) (a' := ?_) #[true, true, true, true, true, true, true, true, true, true, true, true, true, true, true, true, true, true, true, true, true, true, true, true, true, true, true, true, true, true, true, true, true, true, true, true, true, true, true, true, true, true, true, true, true, true, true, true, true, false, false, false, false, false] rfl rfl (any_of HT_.out qf) (fun _ _ _ h => h) (Or.inl ⟨by rfl, ?_⟩) ?_ ?_
                rotate_left
                ·intro w'
                 go_simp
                 with_reducible rfl
                rotate_left
                ·exact z14_0
                refine pure_ (i := 49) (N := some 110) (v := ?_) (a' := ?_) #[true, true, true, true, true, true, true, true, true, true, true, true, true, true, true, true, true, true, true, true, true, true, true, true, true, true, true, true, true, true, true, true, true, true, true, true, true, true, true, true, true, true, true, true, true, true, true, true, true, true, false, false, false, false] rfl rfl (any_of HT_.out qf) (fun _ _ _ h => h) (Or.inl ⟨by rfl, ?_⟩) ?_ ?_
                rotate_left
                ·intro w'
                 go_simp
                 with_reducible rfl
                rotate_left
                ·exact z14_0
                refine pure_ (i := 50) (N := some 111) (v := ?_) (a' := ?_) #[true, true, true, true, true, true, true, true, true, true, true, true, true, true, true, true, true, true, true, true, true, true, true, true, true, true, true, true, true, true, true, true, true, true, true, true, true, true, true, true, true, true, true, true, true, true, true, true, true, true, true, false, false, false] rfl rfl (any_of HT_.out qf) (fun _ _ _ h => h) (Or.inl ⟨by rfl, ?_⟩) ?_ ?_
                rotate_left
                ·intro w'
                 go_simp
                 with_reducible rfl
                rotate_left
                ·exact z14_0
                refine pure_ (i := 51) (N := some 112) (v := ?_) (a' := ?_) #[true, true, true, true, true, true, true, true, true, true, true, true, true, true, true, true, true, true, true, true, true, true, true, true, true, true, true, true, true, true, true, true, true, true, true, true, true, true, true, true, true, true, true, true, true, true, true, true, true, true, true, true, false, false] rfl rfl (any_of HT_.out qf) (fun _ _ _ h => h) (Or.inl ⟨by rfl, ?_⟩) ?_ ?_
                rotate_left
                ·intro w'
                 go_simp
                 with_reducible rfl
                rotate_left
                ·exact z14_0
                refine pure_ (i := 52) (N := some 113) (v := ?_) (a' := ?_) #[true, true, true, true, true, true, true, true, true, true, true, true, true, true, true, true, true, true, true, true, true, true, true, true, true, true, true, true, true, true, true, true, true, true, true, true, true, true, true, true, true, true, true, true, true, true, true, true, true, true, true, true, true, false] rfl rfl (any_of HT_.out qf) (fun _ _ _ h => h) (Or.inl ⟨by rfl, ?_⟩) ?_ ?_
                rotate_left
                ·intro w'
                 go_simp
                 with_reducible rfl
                rotate_left
                ·exact z14_0
                refine pure_ (i := 53) (N := some 0) (v := ?_) (a' := ?_) #[true, true, true, true, true, true, true, true, true, true, true, true, true, true, true, true, true, true, true, true, true, true, true, true, true, true, true, true, true, true, true, true, true, true, true, true, true, true, true, true, true, true, true, true, true, true, true, true, true, true, true, true, true, true] rfl rfl (any_of HT_.out qf) (fun _ _ _ h => h) (Or.inl ⟨by rfl, ?_⟩) ?_ ?_
                rotate_left
                ·intro w'
                 go_simp
                 with_reducible rfl
                rotate_left
                ·exact z14_0
                refine done_ (done_of HT_.out qf) ?_
                try go_wp2_with (first | ((with_reducible refine gate_st (ty := 24) rfl ?_); refine storeC16 rfl rfl rfl rfl rfl qcj qo qf rfl ?_) | ((with_reducible refine gate_ld (ty := 24) rfl ?_); (try (with_reducible refine gate_gd rfl ?_; refine gate_guard qc8 ?_; dsimp only)); refine load_st rfl rfl rfl qcj qo Tryd.underlying24 rfl qf ?_; (try simp only [Act.put, List.setIfInBounds_toArray, List.set_cons_zero, List.set_cons_succ])) | ((with_reducible refine gate_eql (ty := 24) rfl ?_); (try (with_reducible refine gate_gd rfl ?_; refine gate_guard qc8 ?_; dsimp only)); refine eql24 rfl rfl rfl rfl true qn ?_; (try simp only [Act.put, List.setIfInBounds_toArray, List.set_cons_zero, List.set_cons_succ])) | ((with_reducible refine gate_eql (ty := 24) rfl ?_); (try (with_reducible refine gate_gd rfl ?_; refine gate_guard qc8 ?_; dsimp only)); refine eql24 rfl rfl rfl rfl false qn ?_; (try simp only [Act.put, List.setIfInBounds_toArray, List.set_cons_zero, List.set_cons_succ])) | ((with_reducible refine gate_st (ty := 37) rfl ?_); refine storeC8 rfl rfl rfl rfl rfl qcj qo qf rfl ?_) | ((with_reducible refine gate_ld (ty := 37) rfl ?_); (try (with_reducible refine gate_gd rfl ?_; refine gate_guard qc8 ?_; dsimp only)); refine load_st rfl rfl rfl qcj qo Tryd.underlying37 rfl qf ?_; (try simp only [Act.put, List.setIfInBounds_toArray, List.set_cons_zero, List.set_cons_succ])) | go_in)
                go_ret
                exact ⟨by first | rfl | (simp [errW_none, errW_some] <;> rfl) | (simp only [← hji6]; first | rfl | (simp [errW_none, errW_some] <;> rfl)) | (simp [*, errW_none, errW_some] <;> rfl) | (simp [*, IntKind.wrap_u32]; done) | (simp_all [IntKind.wrap_u32]; done), by repeat (first | (with_reducible first | exact HB.out | apply below_alloc | apply pw_below_drewN | apply below_drew1 | refine below_set ?_ GE251.out | refine below_set ?_ GE269.out | refine below_set ?_ GE287.out | refine below_set ?_ GE315.out | refine below_set ?_ GE333.out) | exact HB.out)⟩
               ·rw [if_neg c28] at H
                have c28b0 : (t316 == t350 && (t317 == t351 && (t318 == t352 && (t319 == t353 && (t320 == t354 && (t321 == t355 && (t322 == t356 && (t323 == t357 && (t324 == t358 && (t325 == t359 && (t326 == t360 && (t327 == t361 && (t328 == t362 && (t329 == t363 && (t330 == t364 && (t331 == t365)))))))))))))))) = false := by simpa using c28
                (try (have c28b3 : ¬ (t316 = t350 && (t317 == t351 && (t318 == t352 && (t319 == t353 && (t320 == t354 && (t321 == t355 && (t322 == t356 && (t323 == t357 && (t324 == t358 && (t325 == t359 && (t326 == t360 && (t327 == t361 && (t328 == t362 && (t329 == t363 && (t330 == t364 && (t331 == t365)))))))))))))))) := by simpa using c28))
                clear c28
                exact absurd H qb
              ·rw [if_neg c26] at H
               have c26b0 : (t314 == 0) = false := beq_eq_false_iff_ne.mpr c26
               have c26b1 : (t314 != 0) = true := bne_iff_ne.mpr c26
               exact absurd H qb
             ·rw [if_neg c25] at H
              have c25b0 : (t306 == 1652522221568) = false := beq_eq_false_iff_ne.mpr c25
              have c25b1 : (t306 != 1652522221568) = true := bne_iff_ne.mpr c25
              exact absurd H qb
            ·rw [if_neg c24] at H
             have c24b0 : (t289 == 91) = false := beq_eq_false_iff_ne.mpr c24
             have c24b1 : (t289 != 91) = true := bne_iff_ne.mpr c24
             exact absurd H qb
           ·rw [if_neg c23] at H
            have c23b0 : (t286 == 91) = false := beq_eq_false_iff_ne.mpr c23
            have c23b1 : (t286 != 91) = true := bne_iff_ne.mpr c23
            exact absurd H qb
          ·rw [if_neg c22] at H
           have c22b0 : (t268 == 90) = false := beq_eq_false_iff_ne.mpr c22
           have c22b1 : (t268 != 90) = true := bne_iff_ne.mpr c22
           exact absurd H qb
         ·rw [if_neg c21] at H
          have c21b0 : (t250 == 0) = false := beq_eq_false_iff_ne.mpr c21
          have c21b1 : (t250 != 0) = true := bne_iff_ne.mpr c21
          exact absurd H qb
        ·rw [if_neg c20] at H
         have c20b0 : (t234 == t334 && (t235 == t335 && (t236 == t336 && (t237 == t337 && (t238 == t338 && (t239 == t339 && (t240 == t340 && (t241 == t341 && (t242 == t342 && (t243 == t343 && (t244 == t344 && (t245 == t345 && (t246 == t346 && (t247 == t347 && (t248 == t348 && (t249 == t349)))))))))))))))) = false := by simpa using c20
         (try (have c20b3 : ¬ (t234 = t334 && (t235 == t335 && (t236 == t336 && (t237 == t337 && (t238 == t338 && (t239 == t339 && (t240 == t340 && (t241 == t341 && (t242 == t342 && (t243 == t343 && (t244 == t344 && (t245 == t345 && (t246 == t346 && (t247 == t347 && (t248 == t348 && (t249 == t349)))))))))))))))) := by simpa using c20))
         clear c20
         exact absurd H qb
       ·rw [if_neg c18] at H
        have c18b0 : (t233 == 0) = false := beq_eq_false_iff_ne.mpr c18
        have c18b1 : (t233 != 0) = true := bne_iff_ne.mpr c18
        exact absurd H qb
      ·rw [if_neg c17] at H
       have c17b0 : (t232.toList == ([66, 66, 3, 0, 0, 0, 128] : List UInt8)) = false := beq_eq_false_iff_ne.mpr c17
       have c17b1 : (t232.toList != ([66, 66, 3, 0, 0, 0, 128] : List UInt8)) = true := bne_iff_ne.mpr c17
       exact absurd H qb
     ·rw [if_neg c16] at H
      have c16b0 : (t231 == 0) = false := beq_eq_false_iff_ne.mpr c16
      have c16b1 : (t231 != 0) = true := bne_iff_ne.mpr c16
      exact absurd H qb
    ·rw [if_neg c15] at H
     have c15b0 : ((t230.size : Int) == 39) = false := beq_eq_false_iff_ne.mpr c15
     have c15b1 : ((t230.size : Int) != 39) = true := bne_iff_ne.mpr c15
     exact absurd H qb
   ·rw [if_neg c8] at H
    exact absurd H qb
  ·rw [if_neg c7] at H
   exact absurd H qb
 ·rw [if_neg c4] at H
  exact absurd H qb
end Go.Proofs.YtbfjlhjfpmgplaaDoor.P
