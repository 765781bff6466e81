-- slim
-- Written by wip/hprint.py (this session's program) through the kit's print program; hand contracts are marked 'by hand'.
import Derived.Test.YtgdjekigkimhnaaGreatDoorAbb
import Derived.Test.YtgdjekigkimhnaaGreatDoorPx0
import Derived.Test.YtgdjekigkimhnaaGreatDoorPx14
import Derived.Test.YtgdjekigkimhnaaGreatDoorPx19
import Derived.Test.YtgdjekigkimhnaaGreatDoorPx17
import Derived.Test.YtgdjekigkimhnaaGreatDoorPx13
import Derived.Test.YtgdjekigkimhnaaGreatDoorPx18
import Derived.Test.YtgdjekigkimhnaaGreatDoorPx20
namespace Go.Proofs.YtgdjekigkimhnaaGreatDoor.P
open Go.RowKit Go.Proofs.YtgdjekigkimhnaaGreatDoorW.PrintWords Go.Proofs.YtgdjekigkimhnaaGreatDoorW.PrintLast Go.Proofs.YtgdjekigkimhnaaGreatDoorW.PrintMore
attribute [local go_sem] max2_int min2_int max_two min_two max_three min_three max_four min_four   -- for this text's walks alone
set_option linter.unusedVariables false
set_option linter.unusedSimpArgs false

theorem q5sq {p : Prop} (h : p := by (with_reducible repeat (first | refine blk_drewN ?_ _ | refine blk_drew ?_ | refine blk_alloc ?_ _)); exact BK180.out) : p := h
theorem qy70 {p : Prop} (h : p := by repeat (first | (with_reducible first | exact HB.out | apply below_alloc | apply pw_below_drewN | apply below_drew1 | refine below_set ?_ GE180.out) | exact HB.out)) : p := h
/-! ### gangwaylaw02_fixed: function 13 -/
def gangwaylaw02_fixed.f (k : Nat)  : Option (Bool) := (addrs_ReadMac.f k (⟨#[48, 49, 58, 56, 48, 58, 99, 50, 58, 48, 48, 58, 48, 48, 58, 48, 48]⟩ : ByteArray)).bind fun bt172 => ((addrs_ReadIp.f k (⟨#[49, 48, 46, 48, 46, 49, 46, 50]⟩ : ByteArray)).bind fun bt174 => ((addrs_ReadMac.f k (⟨#[48, 49, 58, 56, 48, 58, 67, 50, 58, 48, 48, 58, 48, 48, 58, 48, 48]⟩ : ByteArray)).bind fun bt176 => ((addrs_ReadIp.f k (⟨#[49, 48, 46, 48, 46, 48, 49, 46, 50]⟩ : ByteArray)).bind fun bt178 => (if bt172.1 = 1652522221568 then (if bt172.2 = 0 then (if bt174.1 = 167772418 then (if bt174.2 = 0 then (if bt176.2 = 20 then (if bt178.2 = 20 then ((addrs_Mac.f k bt172.1).bind fun t181 => (if t181.toList = ([48, 49, 58, 56, 48, 58, 99, 50, 58, 48, 48, 58, 48, 48, 58, 48, 48] : List UInt8) then ((addrs_Ip.f k bt174.1).bind fun t182 => (if t182.toList = ([49, 48, 46, 48, 46, 49, 46, 50] : List UInt8) then ((addrs_Group.f bt172.1).bind fun t183 => (if t183 = true then ((addrs_Own.f bt172.1).bind fun t184 => (if t184 = true then (none) else ((addrs_Own.f 2).bind fun t185 => (if t185 = true then ((addrs_In.f k 167772160 8 bt174.1).bind fun t186 => (if t186 = true then ((addrs_Last.f k 167772160 8).bind fun t187 => (if t187 = 184549375 then ((addrs_Net.f k 1 8).bind fun t188 => (if t188 = true then (none) else ((addrs_Near.f k 167772160 8 0 0).bind fun t189 => (some t189)))) else (none))) else (none))) else (none))))) else (none))) else (none))) else (none))) else (none)) else (none)) else (none)) else (none)) else (none)) else (none)))))
theorem gangwaylaw02_fixed.mono : ∀ k, LeO (gangwaylaw02_fixed.f k ) (gangwaylaw02_fixed.f (k + 1) ) := by
 intro  k
 unfold gangwaylaw02_fixed.f
 repeat' first
   | (with_reducible exact addrs_In.mono _ _ _ _)
   | (with_reducible exact addrs_Ip.mono _ _)
   | (with_reducible exact addrs_Last.mono _ _ _)
   | (with_reducible exact addrs_Mac.mono _ _)
   | (with_reducible exact addrs_Near.mono _ _ _ _ _)
   | (with_reducible exact addrs_Net.mono _ _ _)
   | (with_reducible exact addrs_ReadIp.mono _ _)
   | (with_reducible exact addrs_ReadMac.mono _ _)
   | (with_reducible exact LeO.refl _)
   | (with_reducible exact LeO.none _)
   | (with_reducible refine LeO.ite ?_ ?_)
   | (with_reducible refine LeO.bind ?_ (fun _ => ?_))
   | exact addrs_In.mono _ _ _ _
   | exact addrs_Ip.mono _ _
   | exact addrs_Last.mono _ _ _
   | exact addrs_Mac.mono _ _
   | exact addrs_Near.mono _ _ _ _ _
   | exact addrs_Net.mono _ _ _
   | exact addrs_ReadIp.mono _ _
   | exact addrs_ReadMac.mono _ _
   | exact LeO.none _
   | refine LeO.ite ?_ ?_
   | refine LeO.bind ?_ (fun _ => ?_)
theorem z21_0 {p : Prop} (h : p := by
 rw [if_neg (show ¬ (false = true) by decide)] at H
 exact absurd H q6hr) : p := h
set_option maxHeartbeats 8000000 in
set_option maxRecDepth 100000 in
theorem gangwaylaw02_fixed.calls (k : Nat)  (r : Bool) (w : World) (hL : Laid w) (h : gangwaylaw02_fixed.f k  = some r) :
  Calls Tryz.prog 13 #[] w fun e w' => e = .returned (.bool r) ∧ Below w.heap.size w w' := by
 have HLD := Aside0.mk hL
 clear hL
 have hu34 := Tryz.underlying34
 have HB := Aside0.mk (Below.refl w.heap.size w)
 have H := h
 unfold gangwaylaw02_fixed.f at H
 clear h
 replace H := Option.bind_eq_some_iff.mp H
 obtain ⟨⟨t172, t173⟩, A10, H⟩ := H
 try dsimp only at H
 have A1 := Aside0.mk A10
 clear A10
 replace H := Option.bind_eq_some_iff.mp H
 obtain ⟨⟨t174, t175⟩, A20, H⟩ := H
 try dsimp only at H
 have A2 := Aside0.mk A20
 clear A20
 replace H := Option.bind_eq_some_iff.mp H
 obtain ⟨⟨t176, t177⟩, A30, H⟩ := H
 try dsimp only at H
 have A3 := Aside0.mk A30
 clear A30
 replace H := Option.bind_eq_some_iff.mp H
 obtain ⟨⟨t178, t179⟩, A40, H⟩ := H
 try dsimp only at H
 have A4 := Aside0.mk A40
 clear A40
 by_cases c5 : t172 = 1652522221568
 ·rw [if_pos c5] at H
  have c5b0 : (t172 == 1652522221568) = true := beq_iff_eq.mpr c5
  have c5b1 : (t172 != 1652522221568) = false := bne_eq_false_iff_eq.mpr c5
  clear c5
  by_cases c6 : t173 = 0
  ·rw [if_pos c6] at H
   have c6b0 : (t173 == 0) = true := beq_iff_eq.mpr c6
   have c6b1 : (t173 != 0) = false := bne_eq_false_iff_eq.mpr c6
   clear c6
   by_cases c7 : t174 = 167772418
   ·rw [if_pos c7] at H
    have c7b0 : (t174 == 167772418) = true := beq_iff_eq.mpr c7
    have c7b1 : (t174 != 167772418) = false := bne_eq_false_iff_eq.mpr c7
    clear c7
    by_cases c8 : t175 = 0
    ·rw [if_pos c8] at H
     have c8b0 : (t175 == 0) = true := beq_iff_eq.mpr c8
     have c8b1 : (t175 != 0) = false := bne_eq_false_iff_eq.mpr c8
     clear c8
     by_cases c9 : t177 = 20
     ·rw [if_pos c9] at H
      have c9b0 : (t177 == 20) = true := beq_iff_eq.mpr c9
      have c9b1 : (t177 != 20) = false := bne_eq_false_iff_eq.mpr c9
      clear c9
      by_cases c10 : t179 = 20
      ·rw [if_pos c10] at H
       have c10b0 : (t179 == 20) = true := beq_iff_eq.mpr c10
       have c10b1 : (t179 != 20) = false := bne_eq_false_iff_eq.mpr c10
       clear c10
       replace H := Option.bind_eq_some_iff.mp H
       obtain ⟨t181, A110, H⟩ := H
       try dsimp only at H
       have A11 := Aside0.mk A110
       clear A110
       by_cases c12 : t181.toList = ([48, 49, 58, 56, 48, 58, 99, 50, 58, 48, 48, 58, 48, 48, 58, 48, 48] : List UInt8)
       ·rw [if_pos c12] at H
        have c12b0 : (t181.toList == ([48, 49, 58, 56, 48, 58, 99, 50, 58, 48, 48, 58, 48, 48, 58, 48, 48] : List UInt8)) = true := beq_iff_eq.mpr c12
        have c12b1 : (t181.toList != ([48, 49, 58, 56, 48, 58, 99, 50, 58, 48, 48, 58, 48, 48, 58, 48, 48] : List UInt8)) = false := bne_eq_false_iff_eq.mpr c12
        clear c12
        replace H := Option.bind_eq_some_iff.mp H
        obtain ⟨t182, A130, H⟩ := H
        try dsimp only at H
        have A13 := Aside0.mk A130
        clear A130
        by_cases c14 : t182.toList = ([49, 48, 46, 48, 46, 49, 46, 50] : List UInt8)
        ·rw [if_pos c14] at H
         have c14b0 : (t182.toList == ([49, 48, 46, 48, 46, 49, 46, 50] : List UInt8)) = true := beq_iff_eq.mpr c14
         have c14b1 : (t182.toList != ([49, 48, 46, 48, 46, 49, 46, 50] : List UInt8)) = false := bne_eq_false_iff_eq.mpr c14
         clear c14
         replace H := Option.bind_eq_some_iff.mp H
         obtain ⟨t183, A150, H⟩ := H
         try dsimp only at H
         have A15 := Aside0.mk A150
         clear A150
         by_cases c16 : t183 = true
         ·subst c16
          rw [if_pos rfl] at H
          replace H := Option.bind_eq_some_iff.mp H
          obtain ⟨t184, A170, H⟩ := H
          try dsimp only at H
          have A17 := Aside0.mk A170
          clear A170
          by_cases c18 : t184 = true
          ·subst c18
           rw [if_pos rfl] at H
           exact absurd H q6hr
          ·replace c18 := Bool.eq_false_iff.mpr c18
           subst c18
           rw [if_neg (show ¬ (false = true) by decide)] at H
           replace H := Option.bind_eq_some_iff.mp H
           obtain ⟨t185, A190, H⟩ := H
           try dsimp only at H
           have A19 := Aside0.mk A190
           clear A190
           by_cases c20 : t185 = true
           ·subst c20
            rw [if_pos rfl] at H
            replace H := Option.bind_eq_some_iff.mp H
            obtain ⟨t186, A210, H⟩ := H
            try dsimp only at H
            have A21 := Aside0.mk A210
            clear A210
            by_cases c22 : t186 = true
            ·subst c22
             rw [if_pos rfl] at H
             replace H := Option.bind_eq_some_iff.mp H
             obtain ⟨t187, A230, H⟩ := H
             try dsimp only at H
             have A23 := Aside0.mk A230
             clear A230
             by_cases c24 : t187 = 184549375
             ·rw [if_pos c24] at H
              have c24b0 : (t187 == 184549375) = true := beq_iff_eq.mpr c24
              have c24b1 : (t187 != 184549375) = false := bne_eq_false_iff_eq.mpr c24
              clear c24
              replace H := Option.bind_eq_some_iff.mp H
              obtain ⟨t188, A250, H⟩ := H
              try dsimp only at H
              have A25 := Aside0.mk A250
              clear A250
              by_cases c26 : t188 = true
              ·subst c26
               rw [if_pos rfl] at H
               exact absurd H q6hr
              ·replace c26 := Bool.eq_false_iff.mpr c26
               subst c26
               rw [if_neg (show ¬ (false = true) by decide)] at H
               replace H := Option.bind_eq_some_iff.mp H
               obtain ⟨t189, A270, H⟩ := H
               try dsimp only at H
               have A27 := Aside0.mk A270
               clear A270
               obtain rfl := Option.some.inj H
               go_enter Tryz.func13, Tryz.ntmps13
               go_wp2_with (first | ((with_reducible refine gate_callee (f := 9) rfl ?_); refine goesL_ (some 11) rfl rfl Tryz.func9 qg3m rfl #[.string (⟨#[48, 49, 58, 56, 48, 58, 99, 50, 58, 48, 48, 58, 48, 48, 58, 48, 48]⟩ : ByteArray)] rfl qraq ?_; (with_reducible refine (addrs_ReadMac.calls k (⟨#[48, 49, 58, 56, 48, 58, 99, 50, 58, 48, 48, 58, 48, 48, 58, 48, 48]⟩ : ByteArray) t172 t173 _ ?sideL A1.out).mono ?_); (case sideL => exact laid_below HLD.out qpag); rintro e w28 ⟨rfl, hb⟩; refine ⟨_, rfl, ?_⟩; replace HB := Aside0.mk (below_step qpag hb); (try clear hb); (try clear hb2); (try clear hk); (try clear hi)) | ((with_reducible refine gate_callee (f := 11) rfl ?_); refine goesL_ (some 15) rfl rfl Tryz.func11 qg3m rfl #[.string (⟨#[49, 48, 46, 48, 46, 49, 46, 50]⟩ : ByteArray)] rfl qraq ?_; (with_reducible refine (addrs_ReadIp.calls k (⟨#[49, 48, 46, 48, 46, 49, 46, 50]⟩ : ByteArray) t174 t175 _ ?sideL A2.out).mono ?_); (case sideL => exact laid_below HLD.out qpag); rintro e w29 ⟨rfl, hb⟩; refine ⟨_, rfl, ?_⟩; replace HB := Aside0.mk (below_step qpag hb); (try clear hb); (try clear hb2); (try clear hk); (try clear hi)) | ((with_reducible refine gate_callee (f := 9) rfl ?_); refine goesL_ (some 19) rfl rfl Tryz.func9 qg3m rfl #[.string (⟨#[48, 49, 58, 56, 48, 58, 67, 50, 58, 48, 48, 58, 48, 48, 58, 48, 48]⟩ : ByteArray)] rfl qraq ?_; (with_reducible refine (addrs_ReadMac.calls k (⟨#[48, 49, 58, 56, 48, 58, 67, 50, 58, 48, 48, 58, 48, 48, 58, 48, 48]⟩ : ByteArray) t176 t177 _ ?sideL A3.out).mono ?_); (case sideL => exact laid_below HLD.out qpag); rintro e w30 ⟨rfl, hb⟩; refine ⟨_, rfl, ?_⟩; replace HB := Aside0.mk (below_step qpag hb); (try clear hb); (try clear hb2); (try clear hk); (try clear hi)) | ((with_reducible refine gate_callee (f := 11) rfl ?_); refine goesL_ (some 23) rfl rfl Tryz.func11 qg3m rfl #[.string (⟨#[49, 48, 46, 48, 46, 48, 49, 46, 50]⟩ : ByteArray)] rfl qraq ?_; (with_reducible refine (addrs_ReadIp.calls k (⟨#[49, 48, 46, 48, 46, 48, 49, 46, 50]⟩ : ByteArray) t178 t179 _ ?sideL A4.out).mono ?_); (case sideL => exact laid_below HLD.out qpag); rintro e w31 ⟨rfl, hb⟩; refine ⟨_, rfl, ?_⟩; replace HB := Aside0.mk (below_step qpag hb); (try clear hb); (try clear hb2); (try clear hk); (try clear hi)) | ((with_reducible refine gate_dst (N := 9) rfl ?_); refine box_event qgcr (N := 9) qgcr (cs := #[.int .u32 0, .int .i64 0]) (t := 34) qlto ?_; intro gb180 hg w32 hbox hb; have BK180 := Aside0.mk (hbox); have GE180 := Aside0.mk ((qisx : w.heap.size ≤ gb180)); replace HB := Aside0.mk (below_step qpag hb); clear hb hbox hg; have hcz33_0 : w32.cell? ⟨gb180, 0, none⟩ = some (.int .u32 0) := (blk_cell BK180.out 0).trans rfl; have hcz33_1 : w32.cell? ⟨gb180, 1, none⟩ = some (.int .i64 0) := (blk_cell BK180.out 1).trans rfl; have hfz33_0 := blk_frozen BK180.out 0; have hfz33_1 := blk_frozen BK180.out 1) | (go_at_call 14; (with_reducible refine (addrs_Mac.calls k t172 t181 _ A11.out).mono ?_); rintro e w34 ⟨rfl, hb⟩; replace BK180 := Aside0.mk (blk_below (g := gb180) (o := .cells #[.int .u32 167772160, .int .i64 8] 34 (0, 0)) (by (with_reducible repeat (first | refine blk_drewN ?_ _ | refine blk_drew ?_ | refine blk_alloc ?_ _)); refine blk_put (cs := #[.int .u32 167772160, .int .i64 0]) ?_ 1 _ rfl; (with_reducible repeat (first | refine blk_drewN ?_ _ | refine blk_drew ?_ | refine blk_alloc ?_ _)); refine blk_put (cs := #[.int .u32 0, .int .i64 0]) ?_ 0 _ rfl; (with_reducible repeat (first | refine blk_drewN ?_ _ | refine blk_drew ?_ | refine blk_alloc ?_ _)); exact BK180.out) hb); replace HB := Aside0.mk (below_step qy70 hb); have hcy1_180_0 := (show World.cell? _ ⟨gb180, 0, none⟩ = some (.int .u32 167772160) from (blk_cell BK180.out 0).trans rfl); have hcy1_180_1 := (show World.cell? _ ⟨gb180, 1, none⟩ = some (.int .i64 8) from (blk_cell BK180.out 1).trans rfl); (try clear hb); (try clear hb2); (try clear hk); (try clear hi)) | (go_at_call 16; (with_reducible refine (addrs_Ip.calls k t174 t182 _ ?sideL A13.out).mono ?_); (case sideL => exact laid_below HLD.out qy70); rintro e w35 ⟨rfl, hb⟩; replace BK180 := Aside0.mk (blk_below (g := gb180) q5sq hb); replace HB := Aside0.mk (below_step qy70 hb); have hcy2_180_0 := (show World.cell? _ ⟨gb180, 0, none⟩ = some (.int .u32 167772160) from (blk_cell BK180.out 0).trans rfl); have hcy2_180_1 := (show World.cell? _ ⟨gb180, 1, none⟩ = some (.int .i64 8) from (blk_cell BK180.out 1).trans rfl); (try clear hb); (try clear hb2); (try clear hk); (try clear hi)) | (go_at_call 18; (with_reducible refine (addrs_Group.calls t172 true _ A15.out).mono ?_); rintro e w' ⟨rfl, ⟨nd, rfl⟩⟩) | (go_at_call 20; (with_reducible refine (addrs_Own.calls t172 false _ A17.out).mono ?_); rintro e w' ⟨rfl, ⟨nd, rfl⟩⟩) | (go_at_call 20; (with_reducible refine (addrs_Own.calls 2 true _ A19.out).mono ?_); rintro e w' ⟨rfl, ⟨nd, rfl⟩⟩; have hcz36_0 : w35.cell? ⟨gb180, 0, none⟩ = some (.int .u32 167772160) := (blk_cell BK180.out 0).trans rfl; have hcz36_1 : w35.cell? ⟨gb180, 1, none⟩ = some (.int .i64 8) := (blk_cell BK180.out 1).trans rfl; have hfz36_0 := blk_frozen BK180.out 0; have hfz36_1 := blk_frozen BK180.out 1) | (go_at_call 24; (with_reducible refine (addrs_In.calls k 167772160 8 t174 true _ A21.out).mono ?_); rintro e w37 ⟨rfl, hb⟩; replace BK180 := Aside0.mk (blk_below (g := gb180) q5sq hb); replace HB := Aside0.mk (below_step qy70 hb); have hcy3_180_0 := (show World.cell? _ ⟨gb180, 0, none⟩ = some (.int .u32 167772160) from (blk_cell BK180.out 0).trans rfl); have hcy3_180_1 := (show World.cell? _ ⟨gb180, 1, none⟩ = some (.int .i64 8) from (blk_cell BK180.out 1).trans rfl); (try clear hb); (try clear hb2); (try clear hk); (try clear hi); have hcz38_0 : w37.cell? ⟨gb180, 0, none⟩ = some (.int .u32 167772160) := (blk_cell BK180.out 0).trans rfl; have hcz38_1 : w37.cell? ⟨gb180, 1, none⟩ = some (.int .i64 8) := (blk_cell BK180.out 1).trans rfl; have hfz38_0 := blk_frozen BK180.out 0; have hfz38_1 := blk_frozen BK180.out 1) | (go_at_call 26; (with_reducible refine (addrs_Last.calls k 167772160 8 t187 _ A23.out).mono ?_); rintro e w39 ⟨rfl, hb⟩; replace BK180 := Aside0.mk (blk_below (g := gb180) q5sq hb); replace HB := Aside0.mk (below_step qy70 hb); have hcy4_180_0 := (show World.cell? _ ⟨gb180, 0, none⟩ = some (.int .u32 167772160) from (blk_cell BK180.out 0).trans rfl); have hcy4_180_1 := (show World.cell? _ ⟨gb180, 1, none⟩ = some (.int .i64 8) from (blk_cell BK180.out 1).trans rfl); (try clear hb); (try clear hb2); (try clear hk); (try clear hi)) | (go_at_call 22; (with_reducible refine (addrs_Net.calls k 1 8 false _ A25.out).mono ?_); rintro e w40 ⟨rfl, hb⟩; replace BK180 := Aside0.mk (blk_below (g := gb180) q5sq hb); replace HB := Aside0.mk (below_step qy70 hb); have hcy5_180_0 := (show World.cell? _ ⟨gb180, 0, none⟩ = some (.int .u32 167772160) from (blk_cell BK180.out 0).trans rfl); have hcy5_180_1 := (show World.cell? _ ⟨gb180, 1, none⟩ = some (.int .i64 8) from (blk_cell BK180.out 1).trans rfl); (try clear hb); (try clear hb2); (try clear hk); (try clear hi); have hcz41_0 : w40.cell? ⟨gb180, 0, none⟩ = some (.int .u32 167772160) := (blk_cell BK180.out 0).trans rfl; have hcz41_1 : w40.cell? ⟨gb180, 1, none⟩ = some (.int .i64 8) := (blk_cell BK180.out 1).trans rfl; have hfz41_0 := blk_frozen BK180.out 0; have hfz41_1 := blk_frozen BK180.out 1) | (go_at_call 28; (with_reducible refine (addrs_Near.calls k 167772160 8 0 0 t189 _ A27.out).mono ?_); rintro e w42 ⟨rfl, hb⟩; replace BK180 := Aside0.mk (blk_below (g := gb180) q5sq hb); replace HB := Aside0.mk (below_step qy70 hb); have hcy6_180_0 := (show World.cell? _ ⟨gb180, 0, none⟩ = some (.int .u32 167772160) from (blk_cell BK180.out 0).trans rfl); have hcy6_180_1 := (show World.cell? _ ⟨gb180, 1, none⟩ = some (.int .i64 8) from (blk_cell BK180.out 1).trans rfl); (try clear hb); (try clear hb2); (try clear hk); (try clear hi)))
               go_ret
               exact ⟨qxu5, qy70⟩
             ·rw [if_neg c24] at H
              exact absurd H q6hr
            ·replace c22 := Bool.eq_false_iff.mpr c22
             subst c22
             exact z21_0
           ·replace c20 := Bool.eq_false_iff.mpr c20
            subst c20
            exact z21_0
         ·replace c16 := Bool.eq_false_iff.mpr c16
          subst c16
          exact z21_0
        ·rw [if_neg c14] at H
         exact absurd H q6hr
       ·rw [if_neg c12] at H
        exact absurd H q6hr
      ·rw [if_neg c10] at H
       exact absurd H q6hr
     ·rw [if_neg c9] at H
      exact absurd H q6hr
    ·rw [if_neg c8] at H
     exact absurd H q6hr
   ·rw [if_neg c7] at H
    exact absurd H q6hr
  ·rw [if_neg c6] at H
   exact absurd H q6hr
 ·rw [if_neg c5] at H
  exact absurd H q6hr
end Go.Proofs.YtgdjekigkimhnaaGreatDoor.P
