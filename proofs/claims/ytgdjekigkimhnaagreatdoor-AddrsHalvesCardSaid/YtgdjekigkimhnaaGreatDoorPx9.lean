-- slim
-- Written by wip/hprint.py (this session's program) through the kit's print program; hand contracts are marked 'by hand'.
import Derived.Test.YtgdjekigkimhnaaGreatDoorAbb
import Derived.Test.YtgdjekigkimhnaaGreatDoorPx0
namespace Go.Proofs.YtgdjekigkimhnaaGreatDoor.P
open Go.RowKit Go.Proofs.YtgdjekigkimhnaaGreatDoorW.PrintWords Go.Proofs.YtgdjekigkimhnaaGreatDoorW.PrintLast Go.Proofs.YtgdjekigkimhnaaGreatDoorW.PrintMore
attribute [local go_sem] max2_int min2_int max_two min_two max_three min_three max_four min_four   -- for this text's walks alone
set_option linter.unusedVariables false
set_option linter.unusedSimpArgs false

theorem q6yj {p : Prop} (h : p := by (with_reducible repeat (first | apply Kd.R_alloc | apply Kd.R_drewN | apply Kd.R_drew)); exact HO_4.out) : p := h
/-! ### gangwayref01_Unhex: function 33 -/
mutual
def gangwayref01_Unhex.l0 : Nat → ByteArray → List Int → Int → Option (ByteArray × Int)
 | 0, _, _, _ => none
 | k + 1, x0, x4, x5 => if (wrap64 (x5 + 1)) < (x0.size : Int) then (if 0 ≤ x5 then (if x5 < (x0.size : Int) then ((gangwayref01_half.f k (bt x0 x5)).bind fun t125 => (if t125 > 15 then (gangwayref01_Unhex.j1 k x0 x4 x5 true) else (if 0 ≤ (wrap64 (x5 + 1)) then ((gangwayref01_half.f k (bt x0 (wrap64 (x5 + 1)))).bind fun t126 => (gangwayref01_Unhex.j1 k x0 x4 x5 (decide (t126 > 15)))) else (none)))) else (none)) else (none)) else (if ((x0.size : Int) % 2) = 1 then (some ((⟨#[]⟩ : ByteArray), 11)) else (some (strOfNums x4, 0)))
def gangwayref01_Unhex.j1 : Nat → ByteArray → List Int → Int → Bool → Option (ByteArray × Int)
 | 0, _, _, _, _ => none
 | k + 1, x0, x4, x5, x26 => if x26 = true then (some ((⟨#[]⟩ : ByteArray), 11)) else (if 0 ≤ x5 then (if x5 < (x0.size : Int) then ((gangwayref01_half.f k (bt x0 x5)).bind fun t127 => (if 0 ≤ (wrap64 (x5 + 1)) then (if (wrap64 (x5 + 1)) < (x0.size : Int) then ((gangwayref01_half.f k (bt x0 (wrap64 (x5 + 1)))).bind fun t128 => (if x4.length < 140737488355328 then (gangwayref01_Unhex.l0 k x0 (x4 ++ [(((t127 * 16) % 256) + t128) % 256]) (wrap64 (x5 + 2))) else (none))) else (none)) else (none))) else (none)) else (none))
end
def gangwayref01_Unhex.f (k : Nat) (a0 : ByteArray) : Option (ByteArray × Int) := gangwayref01_Unhex.l0 k a0 (([] : List Int)) 0
theorem gangwayref01_Unhex.mono_l : ∀ k, (∀ y0 y1 y2, LeO (gangwayref01_Unhex.l0 k y0 y1 y2) (gangwayref01_Unhex.l0 (k + 1) y0 y1 y2)) ∧ (∀ y0 y1 y2 y3, LeO (gangwayref01_Unhex.j1 k y0 y1 y2 y3) (gangwayref01_Unhex.j1 (k + 1) y0 y1 y2 y3))
 | 0 => ⟨fun _ _ _ r h => by simp [gangwayref01_Unhex.l0] at h, fun _ _ _ _ r h => by simp [gangwayref01_Unhex.j1] at h⟩
 | k + 1 => by
  obtain ⟨ih0, ih1⟩ := gangwayref01_Unhex.mono_l k
  refine ⟨?_, ?_⟩
  ·intro y0 y1 y2
   unfold gangwayref01_Unhex.l0
   repeat' first
   | (with_reducible exact ih0 _ _ _)
   | (with_reducible exact ih1 _ _ _ _)
   | (with_reducible exact gangwayref01_half.mono _ _)
   | (with_reducible exact LeO.refl _)
   | (with_reducible exact LeO.none _)
   | (with_reducible refine LeO.ite ?_ ?_)
   | (with_reducible refine LeO.bind ?_ (fun _ => ?_))
   | exact ih0 _ _ _
   | exact ih1 _ _ _ _
   | exact gangwayref01_half.mono _ _
   | exact LeO.none _
   | refine LeO.ite ?_ ?_
   | refine LeO.bind ?_ (fun _ => ?_)
  ·intro y0 y1 y2 y3
   unfold gangwayref01_Unhex.j1
   repeat' first
   | (with_reducible exact ih0 _ _ _)
   | (with_reducible exact ih1 _ _ _ _)
   | (with_reducible exact gangwayref01_half.mono _ _)
   | (with_reducible exact LeO.refl _)
   | (with_reducible exact LeO.none _)
   | (with_reducible refine LeO.ite ?_ ?_)
   | (with_reducible refine LeO.bind ?_ (fun _ => ?_))
   | exact ih0 _ _ _
   | exact ih1 _ _ _ _
   | exact gangwayref01_half.mono _ _
   | exact LeO.none _
   | refine LeO.ite ?_ ?_
   | refine LeO.bind ?_ (fun _ => ?_)
theorem gangwayref01_Unhex.mono : ∀ a0 k, LeO (gangwayref01_Unhex.f k a0) (gangwayref01_Unhex.f (k + 1) a0) := by
 intro a0 k
 obtain ⟨ih0, ih1⟩ := gangwayref01_Unhex.mono_l k
 unfold gangwayref01_Unhex.f
 repeat' first
   | (with_reducible exact ih0 _ _ _)
   | (with_reducible exact ih1 _ _ _ _)
   | (with_reducible exact gangwayref01_half.mono _ _)
   | (with_reducible exact LeO.refl _)
   | (with_reducible exact LeO.none _)
   | (with_reducible refine LeO.ite ?_ ?_)
   | (with_reducible refine LeO.bind ?_ (fun _ => ?_))
   | exact ih0 _ _ _
   | exact ih1 _ _ _ _
   | exact gangwayref01_half.mono _ _
   | exact LeO.none _
   | refine LeO.ite ?_ ?_
   | refine LeO.bind ?_ (fun _ => ?_)
def gangwayref01_Unhex.T7 : Bool × List (List Nat × List Nat) := (true, [([], []), ([], []), ([], []), ([1, 2], [1, 2]), ([3], [3]), ([4], [4]), ([], []), ([], []), ([7], [7]), ([6, 8], [6, 8]), ([9, 4], [9]), ([5, 10], [5, 10]), ([11], [11]), ([0, 12, 10], [0, 12]), ([13, 13, 0, 1, 2, 3, 4, 5, 6, 7, 8, 9, 10, 11, 12, 13], [0, 13])])
def gangwayref01_Unhex.B7 : List Nat := [0, 0, 0, 6, 14, 30, 0, 0, 128, 448, 990, 2046, 4094, 8191, 16383]
theorem gangwayref01_Unhex.tab7 : rtab .any (opsOf Tryz.f33 7) = gangwayref01_Unhex.T7 := by kernel_rfl
theorem gangwayref01_Unhex.bits7 : waitsOk gangwayref01_Unhex.T7.2 gangwayref01_Unhex.B7 = true := by kernel_rfl
theorem z9_0 {p : Prop} (h : p := by
 go_wp2
 go_ret2
 exact ⟨qxu5, qpag⟩) : p := h
set_option maxHeartbeats 8000000 in
set_option maxRecDepth 100000 in
theorem gangwayref01_Unhex.calls (k : Nat) (a0 : ByteArray) (r1 : ByteArray) (r2 : Int) (w : World) (h : gangwayref01_Unhex.f k a0 = some (r1, r2)) :
  Calls Tryz.prog 33 #[.string a0] w fun e w' => e = .returned (.tuple #[.string r1, .int .i64 r2]) ∧ Below w.heap.size w w' := by
 have HB := Aside0.mk (Below.refl w.heap.size w)
 have H := h
 unfold gangwayref01_Unhex.f at H
 clear h
 obtain ⟨y122, hy122⟩ : ∃ y_ : List Int, y_ = (([] : List Int)) := ⟨_, rfl⟩
 replace H : (gangwayref01_Unhex.l0 k a0 y122 0) = some (r1, r2) := by first | (rw [hy122]; with_reducible exact H) | (have H2_ := (Option.bind_some _ _).symm.trans H; rw [hy122]; with_reducible exact H2_) | (have H2_ := (Option.bind_some _ _).symm.trans H; with_reducible exact H2_) | with_reducible exact H | (rw [hy122]; exact H) | exact H
 have Ny122 := Aside0.mk hy122
 clear hy122
 have H' := Aside0.mk H
 clear H
 go_enter Tryz.func33, Tryz.ntmps33
 go_wp2_with (first | ((with_reducible refine gate_dst (N := 6) rfl ?_); refine Kd.R_lit (Kd.int .u8) _ 5 ?hg (N := 6) ?hd (xs := ([] : List Int)) (inner := []) (ok := fun _ => True) (okp := fun _ => True) ?hr ?hp (fun _ hk => hk) trivial (Below.refl _ _) (Nat.le_refl _) q6hr ?_; (case hd => rfl); (case hg => rfl); (case hr => first | (go_simp; done) | (go_simp; rfl)); (case hp => exact (Reps.none _ _)); intro v123 w2 ho3 hb hg_ hnew_; clear hg_ hnew_; (first | rw [← Ny122.out] at ho3 | (simp only [Int.reduceToNat] at ho3; rw [← Ny122.out] at ho3)); have HO124 := Aside0.mk (Kd.R_lower ho3 (below_size qpag)); replace HB := Aside0.mk (below_step qpag hb); clear hb ho3))
 go_loopg [4, 5] k (fun kq v4 v5 w' => ∃ (x4_1 : List Int) (x5_1 : Int), v5 = .int .i64 x5_1 ∧ Aside0 (gangwayref01_Unhex.l0 kq a0 x4_1 x5_1 = some (r1, r2)) ∧ Aside0 (kq ≤ k) ∧ Aside0 (Kd.R (Kd.int .u8) 5 w' w.heap.size (fun _ => True) v4 x4_1) ∧ Aside0 (Below w.heap.size w w'))
 case atStart => exact ⟨(y122), (0), q8z4, H', ⟨Nat.le_refl _⟩, ⟨(by (with_reducible repeat (first | apply Kd.R_alloc | apply Kd.R_drewN | apply Kd.R_drew)); exact HO124.out)⟩, ⟨qpag⟩⟩
 case round =>
  clear H'
  try clear p2
  try clear c3
  obtain ⟨x4_1, x5_1, rfl, HA, HK1, HO_4, HB⟩ := hrel
  cases gk with
  | zero => exact absurd HA.out (by simp [gangwayref01_Unhex.l0])
  | succ k1 =>
   have H := HA.out
   clear HA
   simp only [gangwayref01_Unhex.l0] at H
   by_cases c4 : (wrap64 (x5_1 + 1)) < (a0.size : Int)
   ·rw [if_pos c4] at H
    have c4b0 : decide ((wrap64 (x5_1 + 1)) < (a0.size : Int)) = true := decide_eq_true c4
    clear c4
    have HC5 := Aside0.mk H
    clear H
    go_upto_region 5 with (fail)
    go_cut [26] (fun v26 wc => ∃ (kq : Nat) (x26_4 : Bool), v26 = .bool x26_4 ∧ Aside0 (gangwayref01_Unhex.j1 kq a0 x4_1 x5_1 x26_4 = some (r1, r2)) ∧ Aside0 (kq ≤ k1) ∧ Aside0 (Kd.R (Kd.int .u8) 5 wc w.heap.size (fun _ => True) u4 x4_1) ∧ Aside0 (Below w.heap.size w wc))
    case first =>
     have H := HC5.out
     clear HC5
     by_cases c6 : 0 ≤ x5_1
     ·rw [if_pos c6] at H
      have c6b0 : decide (0 ≤ x5_1) = true := decide_eq_true c6
      clear c6
      (first | rw [c6b0] | (simp only [i64_w, i32_w]; rw [c6b0]) | skip)
      by_cases c7 : x5_1 < (a0.size : Int)
      ·rw [if_pos c7] at H
       have c7b0 : decide (x5_1 < (a0.size : Int)) = true := decide_eq_true c7
       clear c7
       replace H := Option.bind_eq_some_iff.mp H
       obtain ⟨t125, A90, H⟩ := H
       try dsimp only at H
       have A9 := Aside0.mk A90
       clear A90
       by_cases c10 : t125 > 15
       ·rw [if_pos c10] at H
        have c10b0 : decide (15 < t125) = true := decide_eq_true c10
        clear c10
        have H' := Aside0.mk H
        clear H
        have p8 : 0 ≤ (x5_1 : Int) := of_decide_eq_true qlss
        have q8 : x5_1 < (a0.size : Int) := of_decide_eq_true qlss
        have hx8 := bt_at a0 x5_1
        replace p8 := eq_true p8
        replace q8 := eq_true q8
        go_wp2_with (first | ((with_reducible refine gate_callee (f := 50) rfl ?_); refine goesL_ (some 17) rfl rfl Tryz.func50 qg3m rfl #[.int .u8 (bt a0 x5_1)] rfl qraq ?_; (with_reducible refine (gangwayref01_half.calls k1 (bt a0 x5_1) t125 _ A9.out).mono ?_); rintro e w' ⟨rfl, ⟨nd, rfl⟩⟩; refine ⟨_, rfl, ?_⟩))
        go_meet
        case rel => exact ⟨_, (true), q8z4, H', ⟨qq36⟩, ⟨q6yj⟩, ⟨qpag⟩⟩
       ·rw [if_neg c10] at H
        have c10b0 : decide (15 < t125) = false := decide_eq_false c10
        clear c10
        obtain ⟨ji11, hji11⟩ : ∃ j_ : Int, (wrap64 (x5_1 + 1)) = j_ := ⟨_, rfl⟩
        replace H : (if 0 ≤ (ji11) then ((gangwayref01_half.f k1 (bt a0 (ji11))).bind fun t126 => (gangwayref01_Unhex.j1 k1 a0 x4_1 x5_1 (decide (t126 > 15)))) else (none)) = some (r1, r2) := by first | (rw [hji11] at H; exact H) | (simp only [hji11] at H ⊢; exact H)
        (try rw [hji11] at c4b0)
        (try rw [hji11] at A9)
        have hji11w : (IntKind.i64.wrap (x5_1 + 1)) = ji11 := (i64_w _).trans hji11
        by_cases c12 : 0 ≤ (ji11)
        ·rw [if_pos c12] at H
         have c12b0 : decide (0 ≤ (ji11)) = true := decide_eq_true c12
         clear c12
         replace H := Option.bind_eq_some_iff.mp H
         obtain ⟨t126, A140, H⟩ := H
         try dsimp only at H
         have A14 := Aside0.mk A140
         clear A140
         have H' := Aside0.mk H
         clear H
         have p8 : 0 ≤ (x5_1 : Int) := of_decide_eq_true qlss
         have q8 : x5_1 < (a0.size : Int) := of_decide_eq_true qlss
         have hx8 := bt_at a0 x5_1
         replace p8 := eq_true p8
         replace q8 := eq_true q8
         go_wp2_with (first | ((with_reducible refine gate_callee (f := 50) rfl ?_); refine goesL_ (some 17) rfl rfl Tryz.func50 qg3m rfl #[.int .u8 (bt a0 x5_1)] rfl qraq ?_; (with_reducible refine (gangwayref01_half.calls k1 (bt a0 x5_1) t125 _ A9.out).mono ?_); rintro e w' ⟨rfl, ⟨nd, rfl⟩⟩; refine ⟨_, rfl, ?_⟩; have p13 : 0 ≤ ((ji11) : Int) := of_decide_eq_true qlss; have q13 : (ji11) < (a0.size : Int) := of_decide_eq_true qlss; have hx13 := bt_at a0 (ji11); replace p13 := eq_true p13; replace q13 := eq_true q13) | (go_at_call 50; (with_reducible refine (gangwayref01_half.calls k1 (bt a0 (ji11)) t126 _ A14.out).mono ?_); rintro e w' ⟨rfl, ⟨nd, rfl⟩⟩))
         go_meet
         case rel => exact ⟨_, (decide (t126 > 15)), q8z4, H', ⟨qq36⟩, ⟨q6yj⟩, ⟨qpag⟩⟩
        ·rw [if_neg c12] at H
         exact absurd H q6hr
      ·rw [if_neg c7] at H
       exact absurd H q6hr
     ·rw [if_neg c6] at H
      exact absurd H q6hr
    case rest =>
     clear HC5
     try clear c1
     try clear p1
     try clear q1
     try clear hx1
     try clear p2
     try clear c3
     try clear c4
     try clear c4b0
     try clear c5
     try clear c6
     try clear c6b0
     try clear p6
     try clear c7
     try clear c7b0
     try clear p8
     try clear q8
     try clear hx8
     try clear c10
     try clear c10b0
     try clear c12
     try clear c12b0
     try clear p13
     try clear q13
     try clear hx13
     try clear p13
     try clear p2
     try clear p8
     try clear q13
     try clear q8
     obtain ⟨kq, x26_4, rfl, HA, HJ4, HO_4, HB⟩ := hcut
     cases kq with
     | zero => exact absurd HA.out (by simp [gangwayref01_Unhex.j1])
     | succ kj4 =>
      have H := HA.out
      clear HA
      simp only [gangwayref01_Unhex.j1] at H
      by_cases c15 : x26_4 = true
      ·subst c15
       rw [if_pos rfl] at H
       simp only [Option.some.injEq, Prod.mk.injEq] at H
       obtain ⟨rfl, rfl⟩ := H
       exact z9_0
      ·replace c15 := Bool.eq_false_iff.mpr c15
       subst c15
       rw [if_neg (show ¬ (false = true) by decide)] at H
       by_cases c16 : 0 ≤ x5_1
       ·rw [if_pos c16] at H
        have c16b0 : decide (0 ≤ x5_1) = true := decide_eq_true c16
        clear c16
        by_cases c17 : x5_1 < (a0.size : Int)
        ·rw [if_pos c17] at H
         have c17b0 : decide (x5_1 < (a0.size : Int)) = true := decide_eq_true c17
         clear c17
         replace H := Option.bind_eq_some_iff.mp H
         obtain ⟨t127, A190, H⟩ := H
         try dsimp only at H
         have A19 := Aside0.mk A190
         clear A190
         obtain ⟨ji20, hji20⟩ : ∃ j_ : Int, (wrap64 (x5_1 + 1)) = j_ := ⟨_, rfl⟩
         replace H : (if 0 ≤ (ji20) then (if (ji20) < (a0.size : Int) then ((gangwayref01_half.f kj4 (bt a0 (ji20))).bind fun t128 => (if x4_1.length < 140737488355328 then (gangwayref01_Unhex.l0 kj4 a0 (x4_1 ++ [(((t127 * 16) % 256) + t128) % 256]) (wrap64 (x5_1 + 2))) else (none))) else (none)) else (none)) = some (r1, r2) := by first | (rw [hji20] at H; exact H) | (simp only [hji20] at H ⊢; exact H)
         (try rw [hji20] at c4b0)
         (try rw [hji20] at A19)
         have hji20w : (IntKind.i64.wrap (x5_1 + 1)) = ji20 := (i64_w _).trans hji20
         by_cases c21 : 0 ≤ (ji20)
         ·rw [if_pos c21] at H
          have c21b0 : decide (0 ≤ (ji20)) = true := decide_eq_true c21
          clear c21
          by_cases c22 : (ji20) < (a0.size : Int)
          ·rw [if_pos c22] at H
           have c22b0 : decide ((ji20) < (a0.size : Int)) = true := decide_eq_true c22
           clear c22
           replace H := Option.bind_eq_some_iff.mp H
           obtain ⟨t128, A240, H⟩ := H
           try dsimp only at H
           have A24 := Aside0.mk A240
           clear A240
           by_cases c25 : x4_1.length < 140737488355328
           ·rw [if_pos c25] at H
            have LMc25 := Aside0.mk c25
            clear c25
            obtain ⟨y129, hy129⟩ : ∃ y_ : List Int, y_ = (x4_1 ++ [(((t127 * 16) % 256) + t128) % 256]) := ⟨_, rfl⟩
            replace H : (gangwayref01_Unhex.l0 kj4 a0 y129 (wrap64 (x5_1 + 2))) = some (r1, r2) := by first | (rw [hy129]; with_reducible exact H) | (have H2_ := (Option.bind_some _ _).symm.trans H; rw [hy129]; with_reducible exact H2_) | (have H2_ := (Option.bind_some _ _).symm.trans H; with_reducible exact H2_) | with_reducible exact H | (rw [hy129]; exact H) | exact H
            have Ny129 := Aside0.mk hy129
            clear hy129
            have H' := Aside0.mk H
            clear H
            try go_wp2
            replace HO_4 := Aside0.mk (Kd.R_drew HO_4.out)
            replace HB := Aside0.mk (below_drew1 HB.out)
            have p18 : 0 ≤ (x5_1 : Int) := of_decide_eq_true qlss
            have q18 : x5_1 < (a0.size : Int) := of_decide_eq_true qlss
            have hx18 := bt_at a0 x5_1
            replace p18 := eq_true p18
            replace q18 := eq_true q18
            have p23 : 0 ≤ ((ji20) : Int) := of_decide_eq_true qlss
            have q23 : (ji20) < (a0.size : Int) := of_decide_eq_true qlss
            have hx23 := bt_at a0 (ji20)
            replace p23 := eq_true p23
            replace q23 := eq_true q23
            refine start_ (n := 15) (S := fun w' => True) (ds := []) (ba 15 0) qg3m rfl rfl trivial (fun hHeld => ?_); refine with_tabW gangwayref01_Unhex.tab7 gangwayref01_Unhex.bits7 (fun HT_ HW_ => ?_)
            generalize wc.drew = w26 at HO_4 HB hHeld ⊢
            refine pu_c3d (i := 0) (N := some 27) (ba 15 1) ?_
            refine pu_c3d (i := 1) (N := some 28) (ba 15 3) ?_
            refine pu_c3d (i := 2) (N := some 29) (ba 15 7) ?_
            refine pu_c3d (i := 6) (N := some 33) (ba 15 71) ?_
            refine pu_c3d (i := 7) (N := some 34) (ba 15 199) ?_
            refine pu_c3d (i := 8) (N := some 35) (ba 15 455) ?_
            refine tk_684 (i := 3) (N := some 30) (ba 15 463) hHeld ?_
            refine tk_684 (i := 9) (N := some 36) (ba 15 975) hHeld ?_
            refine one_ (i := 4) (N := some 31) (ba 15 991) rfl rfl (one_of HT_.out qg3m) qomw (fun K hK => ?_)
            refine goes_ Tryz.func50 qg3m rfl #[.int .u8 (bt a0 x5_1)] qlo1 rfl rfl qraq ?_
            with_reducible refine (gangwayref01_half.calls kj4 (bt a0 x5_1) t127 _ A19.out).mono ?_
            rintro e w' ⟨rfl, ⟨nd, rfl⟩⟩
            refine ⟨_, rfl, ?_⟩
            refine hK.out _ _ trivial (fun hHeld => ?_)
            clear hK K
            refine norm_ (a' := ?_) ?_ ?_
            rotate_left
            ·show Act.put _ (some 31) _ = _
             simp only [Act.put, List.setIfInBounds_toArray, List.set_cons_zero, List.set_cons_succ, i64_w, i32_w]
             rfl
            refine pu_c3d (i := 5) (N := some 32) (ba 15 1023) ?_
            refine one_ (i := 10) (N := some 37) (ba 15 2047) rfl rfl (one_of HT_.out qg3m) qomw (fun K hK => ?_)
            refine goes_ Tryz.func50 qg3m rfl #[.int .u8 (bt a0 (ji20))] qlo1 rfl rfl (by (try simp only [List.map_toArray, List.map_cons, List.map_nil]); first | done | (simp only [hji20]; rfl) | rfl | (simp only [List.length_drop, List.length_take]; rfl)) ?_
            with_reducible refine (gangwayref01_half.calls kj4 (bt a0 (ji20)) t128 _ A24.out).mono ?_
            rintro e w' ⟨rfl, ⟨nd, rfl⟩⟩
            refine ⟨_, rfl, ?_⟩
            refine hK.out _ _ trivial (fun hHeld => ?_)
            clear hK K
            refine norm_ (a' := ?_) ?_ ?_
            rotate_left
            ·show Act.put _ (some 37) _ = _
             simp only [Act.put, List.setIfInBounds_toArray, List.set_cons_zero, List.set_cons_succ, i64_w, i32_w]
             rfl
            refine pu_c3d (i := 11) (N := some 38) (ba 15 4095) ?_
            refine one_ (i := 12) (N := some 39) (ba 15 8191) rfl rfl (one_of HT_.out qg3m) qomw (fun K hK => ?_)
            refine value_ (w1 := ?_) (v := ?_) qgcr rfl ?_ ?_
            rotate_left 2
            ·go_simp
             constructor
             ·rfl
             ·rfl
            refine hK.out _ _ trivial (fun hHeld => ?_)
            clear hK K
            refine norm_ (a' := ?_) ?_ ?_
            rotate_left
            ·show Act.put _ (some 39) _ = _
             simp only [Act.put, List.setIfInBounds_toArray, List.set_cons_zero, List.set_cons_succ, i64_w, i32_w]
             rfl
            refine one_ (i := 13) (N := some 40) (ba 15 16383) rfl rfl (one_of HT_.out qg3m) qomw (fun K hK => ?_)
            refine Kd.R_append_step (Kd.int .u8) (w0 := w) w.heap.size qgcr (.tmp 27) (.tmp 39) 62 5 (.int .u8 0) 1 rfl Tryz.underlying62 info5 rfl qomw q1jy u4 x4_1 ((((t127 * 16) % 256) + t128) % 256) [.int .u8 ((((t127 * 16) % 256) + t128) % 256)] (fun _ => True) (fun _ => False) rfl rfl ?aP (fun _ hk => hk.elim) ?aF ?aO ?aB ?aS ?aL ?_
            (case aP => exact rfl)
            (case aB => exact qpag)
            (case aF => exact (fun _ _ => trivial))
            (case aO => exact q6yj)
            (case aS => exact (below_size qpag))
            (case aL => have := LMc25.out; omega)
            intro v130 w27 ho hb hg hat
            rw [← Ny129.out] at ho
            have n0_ := Aside0.mk (hb)
            have n1_ := Aside0.mk (ho)
            clear HB
            clear HO_4
            have HB := n0_
            have HO131 := n1_
            clear n0_ n1_
            clear ho hb hg hat
            refine hK.out _ _ trivial (fun hHeld => ?_)
            clear hK K
            refine norm_ (a' := ?_) ?_ ?_
            rotate_left
            ·show Act.put _ (some 40) _ = _
             simp only [Act.put, List.setIfInBounds_toArray, List.set_cons_zero, List.set_cons_succ, i64_w, i32_w]
             rfl
            refine pu_c3d (i := 14) (N := some 4) (ba 15 32767) ?_
            refine done_ (done_of HT_.out qg3m) ?_
            try go_wp2
            go_roundg kj4
            case measure => have := HK1.out; have := HJ4.out; omega
            case rel => exact ⟨(y129), (wrap64 (x5_1 + 2)), q8z4, H', ⟨(by have := HK1.out; have := HJ4.out; omega)⟩, ⟨(by (with_reducible repeat (first | apply Kd.R_alloc | apply Kd.R_drewN | apply Kd.R_drew)); exact HO131.out)⟩, ⟨qpag⟩⟩
           ·rw [if_neg c25] at H
            exact absurd H q6hr
          ·rw [if_neg c22] at H
           exact absurd H q6hr
         ·rw [if_neg c21] at H
          exact absurd H q6hr
        ·rw [if_neg c17] at H
         exact absurd H q6hr
       ·rw [if_neg c16] at H
        exact absurd H q6hr
   ·rw [if_neg c4] at H
    have c4b0 : decide ((wrap64 (x5_1 + 1)) < (a0.size : Int)) = false := decide_eq_false c4
    clear c4
    by_cases c28 : ((a0.size : Int) % 2) = 1
    ·rw [if_pos c28] at H
     have c28b0 : (((a0.size : Int) % 2) == 1) = true := beq_iff_eq.mpr c28
     have c28b1 : (((a0.size : Int) % 2) != 1) = false := bne_eq_false_iff_eq.mpr c28
     clear c28
     simp only [Option.some.injEq, Prod.mk.injEq] at H
     obtain ⟨rfl, rfl⟩ := H
     exact z9_0
    ·rw [if_neg c28] at H
     have c28b0 : (((a0.size : Int) % 2) == 1) = false := beq_eq_false_iff_ne.mpr c28
     have c28b1 : (((a0.size : Int) % 2) != 1) = true := bne_iff_ne.mpr c28
     simp only [Option.some.injEq, Prod.mk.injEq] at H
     obtain ⟨rfl, rfl⟩ := H
     have hcv29 := own_string (P := Tryz.prog) Tryz.underlying62 Tryz.underlying5 Tryz.underlying9 (Kd.own_of_R HO_4.out)
     exact z9_0
end Go.Proofs.YtgdjekigkimhnaaGreatDoor.P
