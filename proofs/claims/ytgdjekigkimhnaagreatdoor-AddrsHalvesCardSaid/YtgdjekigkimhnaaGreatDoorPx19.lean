-- slim
-- Written by wip/hprint.py (this session's program) through the kit's print program; hand contracts are marked 'by hand'.
import Derived.Test.YtgdjekigkimhnaaGreatDoorAbb
import Derived.Test.YtgdjekigkimhnaaGreatDoorPx0
import Derived.Test.YtgdjekigkimhnaaGreatDoorPx17
import Derived.Test.YtgdjekigkimhnaaGreatDoorPx14
import Derived.Test.YtgdjekigkimhnaaGreatDoorPx11
import Derived.Test.YtgdjekigkimhnaaGreatDoorPx18
namespace Go.Proofs.YtgdjekigkimhnaaGreatDoor.P
open Go.RowKit Go.Proofs.YtgdjekigkimhnaaGreatDoorW.PrintWords Go.Proofs.YtgdjekigkimhnaaGreatDoorW.PrintLast Go.Proofs.YtgdjekigkimhnaaGreatDoorW.PrintMore
attribute [local go_sem] max2_int min2_int max_two min_two max_three min_three max_four min_four   -- for this text's walks alone
set_option linter.unusedVariables false
set_option linter.unusedSimpArgs false

theorem qevx {p : Prop} (h : p := by (with_reducible repeat (first | refine blk_drewN ?_ _ | refine blk_drew ?_ | refine blk_alloc ?_ _)); exact BK163.out) : p := h
theorem q2xg {p : Prop} (h : p := by repeat (first | (with_reducible first | exact HB.out | apply below_alloc | apply pw_below_drewN | apply below_drew1 | refine below_set ?_ GE163.out) | exact HB.out)) : p := h
/-! ### addrs_Last: function 26 -/
def addrs_Last.f (k : Nat) (a0_0 : Int) (a0_1 : Int) : Option (Int) := (addrs_Net.f k a0_0 a0_1).bind fun t164 => (if t164 = true then ((addrs_rest.f k a0_0 a0_1).bind fun t165 => (some (Go.bits .or .u32 a0_0 t165))) else (some 0))
theorem addrs_Last.mono : ∀ a0 a1 k, LeO (addrs_Last.f k a0 a1) (addrs_Last.f (k + 1) a0 a1) := by
 intro a0 a1 k
 unfold addrs_Last.f
 repeat' first
   | (with_reducible exact addrs_Net.mono _ _ _)
   | (with_reducible exact addrs_rest.mono _ _ _)
   | (with_reducible exact LeO.refl _)
   | (with_reducible exact LeO.none _)
   | (with_reducible refine LeO.ite ?_ ?_)
   | (with_reducible refine LeO.bind ?_ (fun _ => ?_))
   | exact addrs_Net.mono _ _ _
   | exact addrs_rest.mono _ _ _
   | exact LeO.none _
   | refine LeO.ite ?_ ?_
   | refine LeO.bind ?_ (fun _ => ?_)
set_option maxHeartbeats 8000000 in
set_option maxRecDepth 100000 in
theorem addrs_Last.calls (k : Nat) (a0_0 : Int) (a0_1 : Int) (r : Int) (w : World) (h : addrs_Last.f k a0_0 a0_1 = some r) :
  Calls Tryz.prog 26 #[.agg #[.int .u32 a0_0, .int .i64 a0_1]] w fun e w' => e = .returned (.int .u32 r) ∧ Below w.heap.size w w' := by
 have hu34 := Tryz.underlying34
 have HB := Aside0.mk (Below.refl w.heap.size w)
 have H := h
 unfold addrs_Last.f at H
 clear h
 replace H := Option.bind_eq_some_iff.mp H
 obtain ⟨t164, A20, H⟩ := H
 try dsimp only at H
 have A2 := Aside0.mk A20
 clear A20
 by_cases c3 : t164 = true
 ·subst c3
  rw [if_pos rfl] at H
  replace H := Option.bind_eq_some_iff.mp H
  obtain ⟨t165, A40, H⟩ := H
  try dsimp only at H
  have A4 := Aside0.mk A40
  clear A40
  obtain rfl := Option.some.inj H
  go_enter Tryz.func26, Tryz.ntmps26
  try go_wp2_with (first | ((with_reducible refine gate_dst (N := 1) rfl ?_); refine box_event qgcr (N := 1) qgcr (cs := #[.int .u32 a0_0, .int .i64 a0_1]) (t := 34) qlto ?_; intro gb163 hg w5 hbox hb; have BK163 := Aside0.mk (hbox); have GE163 := Aside0.mk ((qisx : w.heap.size ≤ gb163)); replace HB := Aside0.mk (below_step qpag hb); clear hb hbox hg; have hcz6_0 : w5.cell? ⟨gb163, 0, none⟩ = some (.int .u32 a0_0) := (blk_cell BK163.out 0).trans rfl; have hcz6_1 : w5.cell? ⟨gb163, 1, none⟩ = some (.int .i64 a0_1) := (blk_cell BK163.out 1).trans rfl; have hfz6_0 := blk_frozen BK163.out 0; have hfz6_1 := blk_frozen BK163.out 1) | ((with_reducible refine gate_callee (f := 22) rfl ?_); refine goesL_ (some 4) rfl rfl Tryz.func22 qg3m rfl #[.agg #[.int .u32 a0_0, .int .i64 a0_1]] rfl qraq ?_; (with_reducible refine (addrs_Net.calls k a0_0 a0_1 true _ A2.out).mono ?_); rintro e w7 ⟨rfl, hb⟩; refine ⟨_, rfl, ?_⟩; replace BK163 := Aside0.mk (blk_below (g := gb163) qevx hb); replace HB := Aside0.mk (below_step q2xg hb); have hcy1_163_0 := (show World.cell? _ ⟨gb163, 0, none⟩ = some (.int .u32 a0_0) from (blk_cell BK163.out 0).trans rfl); have hcy1_163_1 := (show World.cell? _ ⟨gb163, 1, none⟩ = some (.int .i64 a0_1) from (blk_cell BK163.out 1).trans rfl); (try clear hb); (try clear hb2); (try clear hk); (try clear hi)))
  replace BK163 := Aside0.mk (blk_drew BK163.out)
  replace HB := Aside0.mk (below_drew1 HB.out)
  refine start_ (n := 6) (S := fun w' => w'.cell? ⟨gb163, 0, none⟩ = some (.int .u32 a0_0) ∧ w'.cell? ⟨gb163, 1, none⟩ = some (.int .i64 a0_1)) (ds := []) #[false, false, false, false, false, false] qg3m rfl rfl ⟨(blk_cell BK163.out 0).trans rfl, (blk_cell BK163.out 1).trans rfl⟩ (fun hHeld => ?_)
  generalize w7.drew = w8 at BK163 HB hHeld ⊢
  refine pu_d99 (i := 0) (N := some 6) #[true, false, false, false, false, false] ?_
  refine tk_2c7 (i := 1) (N := some 7) #[true, true, false, false, false, false] hHeld ?_
  refine tk_2c7 (i := 2) (N := some 8) #[true, true, true, false, false, false] hHeld ?_
  refine one_ (i := 3) (N := some 9) #[true, true, true, true, false, false] rfl rfl qg3m qomw (fun K hK => ?_)
  refine goes_ Tryz.func44 qg3m rfl #[.agg #[.int .u32 a0_0, .int .i64 a0_1]] qlo1 rfl rfl qraq ?_
  with_reducible refine (addrs_rest.calls k a0_0 a0_1 t165 _ A4.out).mono ?_
  rintro e w9 ⟨rfl, hb⟩
  refine ⟨_, rfl, ?_⟩
  replace BK163 := Aside0.mk (blk_below (g := gb163) (o := .cells #[.int .u32 a0_0, .int .i64 a0_1] 34 (0, 0)) qevx hb)
  replace HB := Aside0.mk (below_step q2xg hb)
  (try clear hb)
  (try clear hb2)
  (try clear hk)
  (try clear hi)
  refine hK.out _ _ (by exact ⟨(blk_cell BK163.out 0).trans rfl, (blk_cell BK163.out 1).trans rfl⟩) (fun hHeld => ?_)
  clear hK K
  refine norm_ (a' := ?_) ?_ ?_
  rotate_left
  ·show Act.put _ (some 9) _ = _
   simp only [Act.put, List.setIfInBounds_toArray, List.set_cons_zero, List.set_cons_succ, i64_w, i32_w]
   rfl
  refine pu_d99 (i := 4) (N := some 10) #[true, true, true, true, true, false] ?_
  refine pu_d99 (i := 5) (N := some 2) #[true, true, true, true, true, true] ?_
  refine done_ qg3m ?_
  try go_wp2
  go_ret
  exact ⟨qxu5, q2xg⟩
 ·replace c3 := Bool.eq_false_iff.mpr c3
  subst c3
  rw [if_neg (show ¬ (false = true) by decide)] at H
  obtain rfl := Option.some.inj H
  go_enter Tryz.func26, Tryz.ntmps26
  go_wp2_with (first | ((with_reducible refine gate_dst (N := 1) rfl ?_); refine box_event qgcr (N := 1) qgcr (cs := #[.int .u32 a0_0, .int .i64 a0_1]) (t := 34) qlto ?_; intro gb163 hg w10 hbox hb; have BK163 := Aside0.mk (hbox); have GE163 := Aside0.mk ((qisx : w.heap.size ≤ gb163)); replace HB := Aside0.mk (below_step qpag hb); clear hb hbox hg; have hcz11_0 : w10.cell? ⟨gb163, 0, none⟩ = some (.int .u32 a0_0) := (blk_cell BK163.out 0).trans rfl; have hcz11_1 : w10.cell? ⟨gb163, 1, none⟩ = some (.int .i64 a0_1) := (blk_cell BK163.out 1).trans rfl; have hfz11_0 := blk_frozen BK163.out 0; have hfz11_1 := blk_frozen BK163.out 1) | ((with_reducible refine gate_callee (f := 22) rfl ?_); refine goesL_ (some 4) rfl rfl Tryz.func22 qg3m rfl #[.agg #[.int .u32 a0_0, .int .i64 a0_1]] rfl qraq ?_; (with_reducible refine (addrs_Net.calls k a0_0 a0_1 false _ A2.out).mono ?_); rintro e w12 ⟨rfl, hb⟩; refine ⟨_, rfl, ?_⟩; replace BK163 := Aside0.mk (blk_below (g := gb163) qevx hb); replace HB := Aside0.mk (below_step q2xg hb); have hcy1_163_0 := (show World.cell? _ ⟨gb163, 0, none⟩ = some (.int .u32 a0_0) from (blk_cell BK163.out 0).trans rfl); have hcy1_163_1 := (show World.cell? _ ⟨gb163, 1, none⟩ = some (.int .i64 a0_1) from (blk_cell BK163.out 1).trans rfl); (try clear hb); (try clear hb2); (try clear hk); (try clear hi)))
  go_ret
  exact ⟨qxu5, q2xg⟩

end Go.Proofs.YtgdjekigkimhnaaGreatDoor.P
namespace Go.Proofs.YtgdjekigkimhnaaGreatDoor.P
open Go.RowKit Go.Proofs.YtgdjekigkimhnaaGreatDoorW.PrintWords Go.Proofs.YtgdjekigkimhnaaGreatDoorW.PrintLast Go.Proofs.YtgdjekigkimhnaaGreatDoorW.PrintMore
attribute [local go_sem] max2_int min2_int max_two min_two max_three min_three max_four min_four   -- for this text's walks alone
set_option linter.unusedVariables false
set_option linter.unusedSimpArgs false

/-! ### addrs_ReadMac: function 9 -/
def addrs_ReadMac.j0 : Nat → ByteArray → ByteArray → Bool → Option (Int × Int)
 | 0, _, _, _ => none
 | k + 1, x0, x4, x20 => if x20 = true then (some (0, 20)) else ((octets_Get.f k x4 0 6).bind fun bt119 => ((addrs_Mac.f k bt119.1).bind fun t121 => (if t121.toList = x0.toList then (some (bt119.1, 0)) else (some (0, 20)))))
def addrs_ReadMac.f (k : Nat) (a0 : ByteArray) : Option (Int × Int) := (strings_ReplaceAll.f a0 (⟨#[58]⟩ : ByteArray) (⟨#[]⟩ : ByteArray)).bind fun t116 => ((octets_Unhex.f t116).bind fun bt117 => (if bt117.2 = 0 then (addrs_ReadMac.j0 k a0 bt117.1 ((bt117.1.size : Int) != 6)) else (addrs_ReadMac.j0 k a0 bt117.1 true)))
theorem addrs_ReadMac.mono_l : ∀ k, (∀ y0 y1 y2, LeO (addrs_ReadMac.j0 k y0 y1 y2) (addrs_ReadMac.j0 (k + 1) y0 y1 y2))
 | 0 => fun _ _ _ r h => by simp [addrs_ReadMac.j0] at h
 | k + 1 => by
  have ih0 := addrs_ReadMac.mono_l k
  ·intro y0 y1 y2
   unfold addrs_ReadMac.j0
   repeat' first
   | (with_reducible exact ih0 _ _ _)
   | (with_reducible exact addrs_Mac.mono _ _)
   | (with_reducible exact octets_Get.mono _ _ _ _)
   | (with_reducible exact LeO.refl _)
   | (with_reducible exact LeO.none _)
   | (with_reducible refine LeO.ite ?_ ?_)
   | (with_reducible refine LeO.bind ?_ (fun _ => ?_))
   | exact ih0 _ _ _
   | exact addrs_Mac.mono _ _
   | exact octets_Get.mono _ _ _ _
   | exact LeO.none _
   | refine LeO.ite ?_ ?_
   | refine LeO.bind ?_ (fun _ => ?_)
theorem addrs_ReadMac.mono : ∀ a0 k, LeO (addrs_ReadMac.f k a0) (addrs_ReadMac.f (k + 1) a0) := by
 intro a0 k
 have ih0 := addrs_ReadMac.mono_l k
 unfold addrs_ReadMac.f
 repeat' first
   | (with_reducible exact ih0 _ _ _)
   | (with_reducible exact addrs_Mac.mono _ _)
   | (with_reducible exact octets_Get.mono _ _ _ _)
   | (with_reducible exact LeO.refl _)
   | (with_reducible exact LeO.none _)
   | (with_reducible refine LeO.ite ?_ ?_)
   | (with_reducible refine LeO.bind ?_ (fun _ => ?_))
   | exact ih0 _ _ _
   | exact addrs_Mac.mono _ _
   | exact octets_Get.mono _ _ _ _
   | exact LeO.none _
   | refine LeO.ite ?_ ?_
   | refine LeO.bind ?_ (fun _ => ?_)
theorem z7_0 {p : Prop} (h : p := by
 simp only [Option.some.injEq, Prod.mk.injEq] at H
 obtain ⟨rfl, rfl⟩ := H
 go_wp2_with (first | ((with_reducible refine gate_callee (f := 32) rfl ?_); refine goesL_ (some 23) rfl rfl Tryz.func32 qg3m rfl #[.string t117, .int .i64 0, .int .i64 6] rfl qraq ?_; (with_reducible refine (octets_Get.calls kj3 t117 0 6 t119 t120 _ ?sideL A9.out).mono ?_); (case sideL => exact laid_below HLD.out qpag); rintro e wz0 ⟨rfl, hb⟩; refine ⟨_, rfl, ?_⟩; replace HB := Aside0.mk (below_step qpag hb); (try clear hb); (try clear hb2); (try clear hk); (try clear hi)) | ((with_reducible refine gate_callee (f := 14) rfl ?_); refine goesL_ (some 27) rfl rfl Tryz.func14 qg3m rfl #[.int .u64 t119] rfl qraq ?_; (with_reducible refine (addrs_Mac.calls kj3 t119 t121 _ A10.out).mono ?_); rintro e wz1 ⟨rfl, hb⟩; refine ⟨_, rfl, ?_⟩; replace HB := Aside0.mk (below_step qpag hb); (try clear hb); (try clear hb2); (try clear hk); (try clear hi)))
 go_ret2
 exact ⟨qxu5, qpag⟩) : p := h
set_option maxHeartbeats 8000000 in
set_option maxRecDepth 100000 in
theorem addrs_ReadMac.calls (k : Nat) (a0 : ByteArray) (r1 : Int) (r2 : Int) (w : World) (hL : Laid w) (h : addrs_ReadMac.f k a0 = some (r1, r2)) :
  Calls Tryz.prog 9 #[.string a0] w fun e w' => e = .returned (.tuple #[.int .u64 r1, .int .i64 r2]) ∧ Below w.heap.size w w' := by
 have HLD := Aside0.mk hL
 clear hL
 have HB := Aside0.mk (Below.refl w.heap.size w)
 have H := h
 unfold addrs_ReadMac.f at H
 clear h
 replace H := Option.bind_eq_some_iff.mp H
 obtain ⟨t116, A20, H⟩ := H
 try dsimp only at H
 have A2 := Aside0.mk A20
 clear A20
 replace H := Option.bind_eq_some_iff.mp H
 obtain ⟨⟨t117, t118⟩, A30, H⟩ := H
 try dsimp only at H
 have A3 := Aside0.mk A30
 clear A30
 have HC4 := Aside0.mk H
 clear H
 go_enter Tryz.func9, Tryz.ntmps9
 go_upto_region 2 with (first | ((with_reducible refine gate_callee (f := 31) rfl ?_); refine goesL_ (some 10) rfl rfl Tryz.func31 qg3m rfl #[.string a0, .string (⟨#[58]⟩ : ByteArray), .string (⟨#[]⟩ : ByteArray)] rfl qraq ?_; (with_reducible refine (strings_ReplaceAll.calls a0 (⟨#[58]⟩ : ByteArray) (⟨#[]⟩ : ByteArray) t116 _ ?sideL A2.out).mono ?_); (case sideL => exact laid_below HLD.out qpag); rintro e w5 ⟨rfl, hb⟩; refine ⟨_, rfl, ?_⟩; replace HB := Aside0.mk (below_step qpag hb); (try clear hb); (try clear hb2); (try clear hk); (try clear hi)) | ((with_reducible refine gate_callee (f := 30) rfl ?_); refine goesL_ (some 11) rfl rfl Tryz.func30 qg3m rfl #[.string t116] rfl qraq ?_; (with_reducible refine (octets_Unhex.calls t116 t117 t118 _ A3.out).mono ?_); rintro e w6 ⟨rfl, hb⟩; refine ⟨_, rfl, ?_⟩; replace HB := Aside0.mk (below_step qpag hb); (try clear hb); (try clear hb2); (try clear hk); (try clear hi)))
 (try simp only [Act.put, List.setIfInBounds_toArray, List.set_cons_zero, List.set_cons_succ])
 go_cut [20] (fun v20 wc => ∃ (kq : Nat) (x20_3 : Bool), v20 = .bool x20_3 ∧ Aside0 (addrs_ReadMac.j0 kq a0 t117 x20_3 = some (r1, r2)) ∧ Aside0 (kq ≤ k) ∧ Aside0 (Below w.heap.size w wc))
 case first =>
  have H := HC4.out
  clear HC4
  by_cases c7 : t118 = 0
  ·rw [if_pos c7] at H
   have c7b0 : (t118 == 0) = true := beq_iff_eq.mpr c7
   have c7b1 : (t118 != 0) = false := bne_eq_false_iff_eq.mpr c7
   clear c7
   (first | rw [c7b0] | (simp only [i64_w, i32_w]; rw [c7b0]) | skip)
   have H' := Aside0.mk H
   clear H
   go_wp2
   go_meet
   case rel => exact ⟨_, (((t117.size : Int) != 6)), q8z4, H', ⟨qpfc⟩, ⟨qpag⟩⟩
  ·rw [if_neg c7] at H
   have c7b0 : (t118 == 0) = false := beq_eq_false_iff_ne.mpr c7
   have c7b1 : (t118 != 0) = true := bne_iff_ne.mpr c7
   (first | rw [c7b0] | (simp only [i64_w, i32_w]; rw [c7b0]) | skip)
   have H' := Aside0.mk H
   clear H
   go_wp2
   go_meet
   case rel => exact ⟨_, (true), q8z4, H', ⟨qpfc⟩, ⟨qpag⟩⟩
 case rest =>
  clear HC4
  try clear p2
  try clear c3
  try clear c7
  try clear c7b0
  try clear c7b1
  obtain ⟨kq, x20_3, rfl, HA, HJ3, HB⟩ := hcut
  cases kq with
  | zero => exact absurd HA.out (by simp [addrs_ReadMac.j0])
  | succ kj3 =>
   have H := HA.out
   clear HA
   simp only [addrs_ReadMac.j0] at H
   by_cases c8 : x20_3 = true
   ·subst c8
    rw [if_pos rfl] at H
    simp only [Option.some.injEq, Prod.mk.injEq] at H
    obtain ⟨rfl, rfl⟩ := H
    go_wp2
    go_ret2
    exact ⟨qxu5, qpag⟩
   ·replace c8 := Bool.eq_false_iff.mpr c8
    subst c8
    rw [if_neg (show ¬ (false = true) by decide)] at H
    replace H := Option.bind_eq_some_iff.mp H
    obtain ⟨⟨t119, t120⟩, A90, H⟩ := H
    try dsimp only at H
    have A9 := Aside0.mk A90
    clear A90
    replace H := Option.bind_eq_some_iff.mp H
    obtain ⟨t121, A100, H⟩ := H
    try dsimp only at H
    have A10 := Aside0.mk A100
    clear A100
    by_cases c11 : t121.toList = a0.toList
    ·rw [if_pos c11] at H
     have c11b0 : (t121.toList == a0.toList) = true := beq_iff_eq.mpr c11
     have c11b1 : (t121.toList != a0.toList) = false := bne_eq_false_iff_eq.mpr c11
     clear c11
     exact z7_0
    ·rw [if_neg c11] at H
     have c11b0 : (t121.toList == a0.toList) = false := beq_eq_false_iff_ne.mpr c11
     have c11b1 : (t121.toList != a0.toList) = true := bne_iff_ne.mpr c11
     exact z7_0
end Go.Proofs.YtgdjekigkimhnaaGreatDoor.P
