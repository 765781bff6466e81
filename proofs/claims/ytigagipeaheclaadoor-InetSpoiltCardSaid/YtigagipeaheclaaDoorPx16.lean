-- squeezed
-- Written by wip/hprint.py (this session's program) through the kit's print program; hand contracts are marked 'by hand'.
import Derived.Test.YtigagipeaheclaaDoorPx0
import Derived.Test.YtigagipeaheclaaDoorPx4
import Derived.Test.YtigagipeaheclaaDoorPx12
import Derived.Test.YtigagipeaheclaaDoorPx15
namespace Go.Proofs.YtigagipeaheclaaDoor.P
open Go.RowKit Go.Proofs.YtigagipeaheclaaDoorW.PrintWords Go.Proofs.YtigagipeaheclaaDoorW.PrintLast Go.Proofs.YtigagipeaheclaaDoorW.PrintMore
attribute [local go_sem] max2_int min2_int max_two min_two max_three min_three max_four min_four   -- for this text's walks alone
set_option linter.unusedVariables false
set_option linter.unusedSimpArgs false

/-! ### inet_Older: function 18 -/
def inet_Older.f (k : Nat) (a0 : ByteArray) : Option (ByteArray × Int) := (inet_Parse.f k a0).bind fun bt197 => (if bt197.2.2.2.2.2.2.2.2.2.2 = 0 then (if bt197.2.2.2.2.2.1 = 0 then (some ((⟨#[]⟩ : ByteArray), 61)) else ((inet_get.f a0 8).bind fun t209 => (if 0 ≤ 8 then (if 8 ≤ (a0.size : Int) then ((inet_word.f k (wrap64 (t209 - 256))).bind fun t210 => (if (a0.extract 0 8).size + t210.size ≤ 9223372036854775807 then ((inet_get.f a0 10).bind fun t211 => ((csum_Patch.f k t211 t209 (wrap64 (t209 - 256))).bind fun t212 => ((inet_word.f k t212).bind fun t213 => (if ((a0.extract 0 8) ++ t210).size + t213.size ≤ 9223372036854775807 then (if 12 ≤ (a0.size : Int) then (if (((a0.extract 0 8) ++ t210) ++ t213).size + (a0.extract 12 a0.size).size ≤ 9223372036854775807 then (some ((((a0.extract 0 8) ++ t210) ++ t213) ++ (a0.extract 12 a0.size), 0)) else (none)) else (none)) else (none))))) else (none))) else (none)) else (none)))) else (some ((⟨#[]⟩ : ByteArray), bt197.2.2.2.2.2.2.2.2.2.2)))
theorem inet_Older.mono : ∀ a0 k, LeO (inet_Older.f k a0) (inet_Older.f (k + 1) a0) := by
 intro a0 k
 unfold inet_Older.f
 repeat' first
   | (with_reducible exact csum_Patch.mono _ _ _ _)
   | (with_reducible exact inet_Parse.mono _ _)
   | (with_reducible exact inet_word.mono _ _)
   | (with_reducible exact LeO.refl _)
   | (with_reducible exact LeO.none _)
   | (with_reducible refine LeO.ite ?_ ?_)
   | (with_reducible refine LeO.bind ?_ (fun _ => ?_))
   | exact csum_Patch.mono _ _ _ _
   | exact inet_Parse.mono _ _
   | exact inet_word.mono _ _
   | exact LeO.none _
   | refine LeO.ite ?_ ?_
   | refine LeO.bind ?_ (fun _ => ?_)
def inet_Older.T8 : Bool × List (List Nat × List Nat) := (true, [([], []), ([0], [0]), ([], []), ([2], [2]), ([1, 3], [1, 3]), ([], []), ([5, 3], [5]), ([], []), ([], []), ([6, 7, 8, 6], [6, 7, 8]), ([9, 9], [9]), ([4, 10], [4, 10]), ([], []), ([12], [12]), ([11, 13], [11, 13]), ([14, 10, 0, 1, 2, 3, 4, 5, 6, 7, 8, 9, 10, 11, 12, 13, 14], [14]), ([15, 0, 1, 2, 3, 4, 5, 6, 7, 8, 9, 10, 11, 12, 13, 14, 15], [])])
def inet_Older.B8 : List Nat := [0, 1, 0, 4, 15, 0, 44, 0, 0, 492, 1004, 2047, 0, 4096, 16383, 32767, 65535]
theorem inet_Older.tab8 : rtab .any (opsOf Tryd.f18 8) = inet_Older.T8 := by kernel_rfl
theorem inet_Older.bits8 : waitsOk inet_Older.T8.2 inet_Older.B8 = true := by kernel_rfl
set_option maxHeartbeats 8000000 in
set_option maxRecDepth 100000 in
theorem inet_Older.calls (k : Nat) (a0 : ByteArray) (r1 : ByteArray) (r2 : Int) (w : World) (hL : Laid w) (h : inet_Older.f k a0 = some (r1, r2)) :
  Calls Tryd.prog 18 #[.string a0] w fun e w' => e = .returned (.tuple #[.string r1, .int .i64 r2]) ∧ Below w.heap.size w w' := by
 have HLD := Aside0.mk hL
 clear hL
 have hu24 := Tryd.underlying24
 have HB := Aside0.mk (Below.refl w.heap.size w)
 have H : ((inet_Parse.f k a0).bind fun bt197 => (if bt197.2.2.2.2.2.2.2.2.2.2 = 0 then (if bt197.2.2.2.2.2.1 = 0 then (some ((⟨#[]⟩ : ByteArray), 61)) else ((inet_get.f a0 8).bind fun t209 => (if 0 ≤ 8 then (if 8 ≤ (a0.size : Int) then ((inet_word.f k (wrap64 (t209 - 256))).bind fun t210 => (if (a0.extract 0 8).size + t210.size ≤ 9223372036854775807 then ((inet_get.f a0 10).bind fun t211 => ((csum_Patch.f k t211 t209 (wrap64 (t209 - 256))).bind fun t212 => ((inet_word.f k t212).bind fun t213 => (if ((a0.extract 0 8) ++ t210).size + t213.size ≤ 9223372036854775807 then (if 12 ≤ (a0.size : Int) then (if (((a0.extract 0 8) ++ t210) ++ t213).size + (a0.extract 12 a0.size).size ≤ 9223372036854775807 then (some ((((a0.extract 0 8) ++ t210) ++ t213) ++ (a0.extract 12 a0.size), 0)) else (none)) else (none)) else (none))))) else (none))) else (none)) else (none)))) else (some ((⟨#[]⟩ : ByteArray), bt197.2.2.2.2.2.2.2.2.2.2)))) = some (r1, r2) := h
 clear h
 replace H := Option.bind_eq_some_iff.mp H
 obtain ⟨⟨t197, t198, t199, t200, t201, t202, t203, t204, t205, t206, t207⟩, A20, H⟩ := H
 replace H : (if t207 = 0 then (if t202 = 0 then (some ((⟨#[]⟩ : ByteArray), 61)) else ((inet_get.f a0 8).bind fun t209 => (if 0 ≤ 8 then (if 8 ≤ (a0.size : Int) then ((inet_word.f k (wrap64 (t209 - 256))).bind fun t210 => (if (a0.extract 0 8).size + t210.size ≤ 9223372036854775807 then ((inet_get.f a0 10).bind fun t211 => ((csum_Patch.f k t211 t209 (wrap64 (t209 - 256))).bind fun t212 => ((inet_word.f k t212).bind fun t213 => (if ((a0.extract 0 8) ++ t210).size + t213.size ≤ 9223372036854775807 then (if 12 ≤ (a0.size : Int) then (if (((a0.extract 0 8) ++ t210) ++ t213).size + (a0.extract 12 a0.size).size ≤ 9223372036854775807 then (some ((((a0.extract 0 8) ++ t210) ++ t213) ++ (a0.extract 12 a0.size), 0)) else (none)) else (none)) else (none))))) else (none))) else (none)) else (none)))) else (some ((⟨#[]⟩ : ByteArray), t207))) = some (r1, r2) := H
 have A2 := Aside0.mk A20
 clear A20
 by_cases c3 : t207 = 0
 ·rw [if_pos c3] at H
  have c3b0 : (t207 == 0) = true := beq_iff_eq.mpr c3
  have c3b1 : (t207 != 0) = false := bne_eq_false_iff_eq.mpr c3
  clear c3
  by_cases c4 : t202 = 0
  ·rw [if_pos c4] at H
   have c4b0 : (t202 == 0) = true := beq_iff_eq.mpr c4
   have c4b1 : (t202 != 0) = false := bne_eq_false_iff_eq.mpr c4
   clear c4
   simp only [Option.some.injEq, Prod.mk.injEq] at H
   obtain ⟨rfl, rfl⟩ := H
   go_enter Tryd.func18, Tryd.ntmps18
   go_wp2_with (first | ((with_reducible refine gate_callee (f := 16) rfl ?_); refine goesL_ (some 10) rfl rfl Tryd.func16 (by kernel_rfl) rfl #[.string a0] rfl (by (try simp only [List.map_toArray, List.map_cons, List.map_nil]); first | done | rfl | (simp only [List.length_drop, List.length_take]; rfl)) ?_; (with_reducible refine (inet_Parse.calls k a0 t197 t198 t199 t200 t201 t202 t203 t204 t205 t206 t207 _ ?sideL A2.out).mono ?_); (case sideL => exact laid_below HLD.out (by repeat (first | (with_reducible first | exact HB.out | apply below_alloc | apply pw_below_drewN | apply below_drew1) | exact HB.out))); rintro e w5 ⟨rfl, hb⟩; refine ⟨_, rfl, ?_⟩; have n0_ := Aside0.mk (below_step (by repeat (first | (with_reducible first | exact HB.out | apply below_alloc | apply pw_below_drewN | apply below_drew1) | exact HB.out)) hb); clear HB; have HB := n0_; clear n0_; (try clear hb); (try clear hb2); (try clear hk); (try clear hi)) | ((with_reducible refine gate_dst (N := 4) rfl ?_); refine box_event ?hg (N := 4) ?hd (cs := #[.int .i64 0, .int .i64 0, .bool false, .bool false, .int .i64 0, .int .i64 0, .int .i64 0, .int .u32 0, .int .u32 0, .string (⟨#[]⟩ : ByteArray)]) (t := 24) ?hr ?_; (case hd => rfl); (case hg => rfl); (case hr => first | (go_simp; done) | (go_simp; rfl)); intro gb208 hg w6 hbox hb; have n0_ := Aside0.mk (below_step (by repeat (first | (with_reducible first | exact HB.out | apply below_alloc | apply pw_below_drewN | apply below_drew1) | exact HB.out)) hb); have n1_ := Aside0.mk (hbox); have n2_ := Aside0.mk ((by rw [hg]; exact (below_size (by repeat (first | (with_reducible first | exact HB.out | apply below_alloc | apply pw_below_drewN | apply below_drew1) | exact HB.out))) : w.heap.size ≤ gb208)); have n3_ := Aside0.mk ((by rw [hg]; exact (below_size (by repeat (first | (with_reducible first | exact HB.out | apply below_alloc | apply pw_below_drewN | apply below_drew1) | exact HB.out))) : w.heap.size ≤ gb208)); clear HB; have HB := n0_; have BK208 := n1_; have GW208 := n2_; have GE208 := n3_; clear n0_ n1_ n2_ n3_; clear hb hbox hg; have hcz7_0 : w6.cell? ⟨gb208, 0, none⟩ = some (.int .i64 0) := (blk_cell BK208.out 0).trans rfl; have hcz7_1 : w6.cell? ⟨gb208, 1, none⟩ = some (.int .i64 0) := (blk_cell BK208.out 1).trans rfl; have hcz7_2 : w6.cell? ⟨gb208, 2, none⟩ = some (.bool false) := (blk_cell BK208.out 2).trans rfl; have hcz7_3 : w6.cell? ⟨gb208, 3, none⟩ = some (.bool false) := (blk_cell BK208.out 3).trans rfl; have hcz7_4 : w6.cell? ⟨gb208, 4, none⟩ = some (.int .i64 0) := (blk_cell BK208.out 4).trans rfl; have hcz7_5 : w6.cell? ⟨gb208, 5, none⟩ = some (.int .i64 0) := (blk_cell BK208.out 5).trans rfl; have hcz7_6 : w6.cell? ⟨gb208, 6, none⟩ = some (.int .i64 0) := (blk_cell BK208.out 6).trans rfl; have hcz7_7 : w6.cell? ⟨gb208, 7, none⟩ = some (.int .u32 0) := (blk_cell BK208.out 7).trans rfl; have hcz7_8 : w6.cell? ⟨gb208, 8, none⟩ = some (.int .u32 0) := (blk_cell BK208.out 8).trans rfl; have hcz7_9 : w6.cell? ⟨gb208, 9, none⟩ = some (.string (⟨#[]⟩ : ByteArray)) := (blk_cell BK208.out 9).trans rfl; have hfz7_0 := blk_frozen BK208.out 0; have hfz7_1 := blk_frozen BK208.out 1; have hfz7_2 := blk_frozen BK208.out 2; have hfz7_3 := blk_frozen BK208.out 3; have hfz7_4 := blk_frozen BK208.out 4; have hfz7_5 := blk_frozen BK208.out 5; have hfz7_6 := blk_frozen BK208.out 6; have hfz7_7 := blk_frozen BK208.out 7; have hfz7_8 := blk_frozen BK208.out 8; have hfz7_9 := blk_frozen BK208.out 9))
   go_ret2
   exact ⟨by first | rfl | (simp [errW_none, errW_some] <;> rfl) | (simp [*, errW_none, errW_some] <;> rfl) | (simp [*, IntKind.wrap_u32]; done) | (simp_all [IntKind.wrap_u32]; done), by repeat (first | (with_reducible first | exact HB.out | apply below_alloc | apply pw_below_drewN | apply below_drew1 | refine below_set ?_ GE208.out) | exact HB.out)⟩
  ·rw [if_neg c4] at H
   have c4b0 : (t202 == 0) = false := beq_eq_false_iff_ne.mpr c4
   have c4b1 : (t202 != 0) = true := bne_iff_ne.mpr c4
   replace H := Option.bind_eq_some_iff.mp H
   obtain ⟨t209, A80, H⟩ := H
   replace H : (if 0 ≤ 8 then (if 8 ≤ (a0.size : Int) then ((inet_word.f k (wrap64 (t209 - 256))).bind fun t210 => (if (a0.extract 0 8).size + t210.size ≤ 9223372036854775807 then ((inet_get.f a0 10).bind fun t211 => ((csum_Patch.f k t211 t209 (wrap64 (t209 - 256))).bind fun t212 => ((inet_word.f k t212).bind fun t213 => (if ((a0.extract 0 8) ++ t210).size + t213.size ≤ 9223372036854775807 then (if 12 ≤ (a0.size : Int) then (if (((a0.extract 0 8) ++ t210) ++ t213).size + (a0.extract 12 a0.size).size ≤ 9223372036854775807 then (some ((((a0.extract 0 8) ++ t210) ++ t213) ++ (a0.extract 12 a0.size), 0)) else (none)) else (none)) else (none))))) else (none))) else (none)) else (none)) = some (r1, r2) := H
   have A8 := Aside0.mk A80
   clear A80
   by_cases c9 : 0 ≤ 8
   ·rw [if_pos c9] at H
    have c9b0 := eq_true c9
    have c9b1 : decide (0 ≤ 8) = true := decide_eq_true c9
    clear c9
    by_cases c10 : 8 ≤ (a0.size : Int)
    ·rw [if_pos c10] at H
     have c10b0 := eq_true c10
     have c10b1 : decide (8 ≤ (a0.size : Int)) = true := decide_eq_true c10
     clear c10
     replace H := Option.bind_eq_some_iff.mp H
     obtain ⟨t210, A110, H⟩ := H
     replace H : (if (a0.extract 0 8).size + t210.size ≤ 9223372036854775807 then ((inet_get.f a0 10).bind fun t211 => ((csum_Patch.f k t211 t209 (wrap64 (t209 - 256))).bind fun t212 => ((inet_word.f k t212).bind fun t213 => (if ((a0.extract 0 8) ++ t210).size + t213.size ≤ 9223372036854775807 then (if 12 ≤ (a0.size : Int) then (if (((a0.extract 0 8) ++ t210) ++ t213).size + (a0.extract 12 a0.size).size ≤ 9223372036854775807 then (some ((((a0.extract 0 8) ++ t210) ++ t213) ++ (a0.extract 12 a0.size), 0)) else (none)) else (none)) else (none))))) else (none)) = some (r1, r2) := H
     have A11 := Aside0.mk A110
     clear A110
     by_cases c12 : (a0.extract 0 8).size + t210.size ≤ 9223372036854775807
     ·rw [if_pos c12] at H
      have c12b0 := eq_true c12
      have c12b1 : decide ((a0.extract 0 8).size + t210.size ≤ 9223372036854775807) = true := decide_eq_true c12
      try have c12b2 : (9223372036854775807 < (a0.extract 0 8).size + t210.size) = False := eq_false (Nat.not_lt.2 c12)
      replace H := Option.bind_eq_some_iff.mp H
      obtain ⟨t211, A130, H⟩ := H
      replace H : ((csum_Patch.f k t211 t209 (wrap64 (t209 - 256))).bind fun t212 => ((inet_word.f k t212).bind fun t213 => (if ((a0.extract 0 8) ++ t210).size + t213.size ≤ 9223372036854775807 then (if 12 ≤ (a0.size : Int) then (if (((a0.extract 0 8) ++ t210) ++ t213).size + (a0.extract 12 a0.size).size ≤ 9223372036854775807 then (some ((((a0.extract 0 8) ++ t210) ++ t213) ++ (a0.extract 12 a0.size), 0)) else (none)) else (none)) else (none)))) = some (r1, r2) := H
      have A13 := Aside0.mk A130
      clear A130
      replace H := Option.bind_eq_some_iff.mp H
      obtain ⟨t212, A140, H⟩ := H
      replace H : ((inet_word.f k t212).bind fun t213 => (if ((a0.extract 0 8) ++ t210).size + t213.size ≤ 9223372036854775807 then (if 12 ≤ (a0.size : Int) then (if (((a0.extract 0 8) ++ t210) ++ t213).size + (a0.extract 12 a0.size).size ≤ 9223372036854775807 then (some ((((a0.extract 0 8) ++ t210) ++ t213) ++ (a0.extract 12 a0.size), 0)) else (none)) else (none)) else (none))) = some (r1, r2) := H
      have A14 := Aside0.mk A140
      clear A140
      replace H := Option.bind_eq_some_iff.mp H
      obtain ⟨t213, A150, H⟩ := H
      replace H : (if ((a0.extract 0 8) ++ t210).size + t213.size ≤ 9223372036854775807 then (if 12 ≤ (a0.size : Int) then (if (((a0.extract 0 8) ++ t210) ++ t213).size + (a0.extract 12 a0.size).size ≤ 9223372036854775807 then (some ((((a0.extract 0 8) ++ t210) ++ t213) ++ (a0.extract 12 a0.size), 0)) else (none)) else (none)) else (none)) = some (r1, r2) := H
      have A15 := Aside0.mk A150
      clear A150
      by_cases c16 : ((a0.extract 0 8) ++ t210).size + t213.size ≤ 9223372036854775807
      ·rw [if_pos c16] at H
       have c16b0 := eq_true c16
       have c16b1 : decide (((a0.extract 0 8) ++ t210).size + t213.size ≤ 9223372036854775807) = true := decide_eq_true c16
       have c16z := c16
       simp only [ByteArray.size_append] at c16z
       have c16z1 := eq_true c16z
       have c16z2 := eq_false (Nat.not_lt.2 c16z)
       try have c16b2 : (9223372036854775807 < ((a0.extract 0 8) ++ t210).size + t213.size) = False := eq_false (Nat.not_lt.2 c16)
       by_cases c17 : 12 ≤ (a0.size : Int)
       ·rw [if_pos c17] at H
        have c17b0 := eq_true c17
        have c17b1 : decide (12 ≤ (a0.size : Int)) = true := decide_eq_true c17
        clear c17
        by_cases c18 : (((a0.extract 0 8) ++ t210) ++ t213).size + (a0.extract 12 a0.size).size ≤ 9223372036854775807
        ·rw [if_pos c18] at H
         have c18b0 := eq_true c18
         have c18b1 : decide ((((a0.extract 0 8) ++ t210) ++ t213).size + (a0.extract 12 a0.size).size ≤ 9223372036854775807) = true := decide_eq_true c18
         have c18z := c18
         simp only [ByteArray.size_append] at c18z
         have c18z1 := eq_true c18z
         have c18z2 := eq_false (Nat.not_lt.2 c18z)
         try have c18b2 : (9223372036854775807 < (((a0.extract 0 8) ++ t210) ++ t213).size + (a0.extract 12 a0.size).size) = False := eq_false (Nat.not_lt.2 c18)
         simp only [Option.some.injEq, Prod.mk.injEq] at H
         obtain ⟨rfl, rfl⟩ := H
         go_enter Tryd.func18, Tryd.ntmps18
         try go_wp2_with (first | ((with_reducible refine gate_callee (f := 16) rfl ?_); refine goesL_ (some 10) rfl rfl Tryd.func16 (by kernel_rfl) rfl #[.string a0] rfl (by (try simp only [List.map_toArray, List.map_cons, List.map_nil]); first | done | rfl | (simp only [List.length_drop, List.length_take]; rfl)) ?_; (with_reducible refine (inet_Parse.calls k a0 t197 t198 t199 t200 t201 t202 t203 t204 t205 t206 t207 _ ?sideL A2.out).mono ?_); (case sideL => exact laid_below HLD.out (by repeat (first | (with_reducible first | exact HB.out | apply below_alloc | apply pw_below_drewN | apply below_drew1) | exact HB.out))); rintro e w19 ⟨rfl, hb⟩; refine ⟨_, rfl, ?_⟩; have n0_ := Aside0.mk (below_step (by repeat (first | (with_reducible first | exact HB.out | apply below_alloc | apply pw_below_drewN | apply below_drew1) | exact HB.out)) hb); clear HB; have HB := n0_; clear n0_; (try clear hb); (try clear hb2); (try clear hk); (try clear hi)) | ((with_reducible refine gate_dst (N := 4) rfl ?_); refine box_event ?hg (N := 4) ?hd (cs := #[.int .i64 0, .int .i64 0, .bool false, .bool false, .int .i64 0, .int .i64 0, .int .i64 0, .int .u32 0, .int .u32 0, .string (⟨#[]⟩ : ByteArray)]) (t := 24) ?hr ?_; (case hd => rfl); (case hg => rfl); (case hr => first | (go_simp; done) | (go_simp; rfl)); intro gb208 hg w20 hbox hb; have n0_ := Aside0.mk (below_step (by repeat (first | (with_reducible first | exact HB.out | apply below_alloc | apply pw_below_drewN | apply below_drew1) | exact HB.out)) hb); have n1_ := Aside0.mk (hbox); have n2_ := Aside0.mk ((by rw [hg]; exact (below_size (by repeat (first | (with_reducible first | exact HB.out | apply below_alloc | apply pw_below_drewN | apply below_drew1) | exact HB.out))) : w.heap.size ≤ gb208)); have n3_ := Aside0.mk ((by rw [hg]; exact (below_size (by repeat (first | (with_reducible first | exact HB.out | apply below_alloc | apply pw_below_drewN | apply below_drew1) | exact HB.out))) : w.heap.size ≤ gb208)); clear HB; have HB := n0_; have BK208 := n1_; have GW208 := n2_; have GE208 := n3_; clear n0_ n1_ n2_ n3_; clear hb hbox hg; have hcz21_0 : w20.cell? ⟨gb208, 0, none⟩ = some (.int .i64 0) := (blk_cell BK208.out 0).trans rfl; have hcz21_1 : w20.cell? ⟨gb208, 1, none⟩ = some (.int .i64 0) := (blk_cell BK208.out 1).trans rfl; have hcz21_2 : w20.cell? ⟨gb208, 2, none⟩ = some (.bool false) := (blk_cell BK208.out 2).trans rfl; have hcz21_3 : w20.cell? ⟨gb208, 3, none⟩ = some (.bool false) := (blk_cell BK208.out 3).trans rfl; have hcz21_4 : w20.cell? ⟨gb208, 4, none⟩ = some (.int .i64 0) := (blk_cell BK208.out 4).trans rfl; have hcz21_5 : w20.cell? ⟨gb208, 5, none⟩ = some (.int .i64 0) := (blk_cell BK208.out 5).trans rfl; have hcz21_6 : w20.cell? ⟨gb208, 6, none⟩ = some (.int .i64 0) := (blk_cell BK208.out 6).trans rfl; have hcz21_7 : w20.cell? ⟨gb208, 7, none⟩ = some (.int .u32 0) := (blk_cell BK208.out 7).trans rfl; have hcz21_8 : w20.cell? ⟨gb208, 8, none⟩ = some (.int .u32 0) := (blk_cell BK208.out 8).trans rfl; have hcz21_9 : w20.cell? ⟨gb208, 9, none⟩ = some (.string (⟨#[]⟩ : ByteArray)) := (blk_cell BK208.out 9).trans rfl; have hfz21_0 := blk_frozen BK208.out 0; have hfz21_1 := blk_frozen BK208.out 1; have hfz21_2 := blk_frozen BK208.out 2; have hfz21_3 := blk_frozen BK208.out 3; have hfz21_4 := blk_frozen BK208.out 4; have hfz21_5 := blk_frozen BK208.out 5; have hfz21_6 := blk_frozen BK208.out 6; have hfz21_7 := blk_frozen BK208.out 7; have hfz21_8 := blk_frozen BK208.out 8; have hfz21_9 := blk_frozen BK208.out 9) | ((with_reducible refine gate_callee (f := 31) rfl ?_); refine goesL_ (some 22) rfl rfl Tryd.func31 (by kernel_rfl) rfl #[.string a0, .int .i64 8] rfl (by (try simp only [List.map_toArray, List.map_cons, List.map_nil]); first | done | rfl | (simp only [List.length_drop, List.length_take]; rfl)) ?_; (with_reducible refine (inet_get.calls a0 8 t209 _ A8.out).mono ?_); rintro e w' ⟨rfl, ⟨nd, rfl⟩⟩; refine ⟨_, rfl, ?_⟩))
         have n0_ : Aside0 (((((((((((w20.setCell ⟨gb208, 0, none⟩ (.int .i64 t197)).setCell ⟨gb208, 1, none⟩ (.int .i64 t198)).setCell ⟨gb208, 2, none⟩ (.bool t199)).setCell ⟨gb208, 3, none⟩ (.bool t200)).setCell ⟨gb208, 4, none⟩ (.int .i64 t201)).setCell ⟨gb208, 5, none⟩ (.int .i64 t202)).setCell ⟨gb208, 6, none⟩ (.int .i64 t203)).setCell ⟨gb208, 7, none⟩ (.int .u32 t204)).setCell ⟨gb208, 8, none⟩ (.int .u32 t205)).setCell ⟨gb208, 9, none⟩ (.string t206)).heap[gb208]? = some (.cells #[.int .i64 t197, .int .i64 t198, .bool t199, .bool t200, .int .i64 t201, .int .i64 t202, .int .i64 t203, .int .u32 t204, .int .u32 t205, .string t206] 24 (0, 0))) := ⟨by (with_reducible repeat (first | refine blk_drewN ?_ _ | refine blk_drew ?_ | refine blk_alloc ?_ _)); refine blk_put (cs := #[.int .i64 t197, .int .i64 t198, .bool t199, .bool t200, .int .i64 t201, .int .i64 t202, .int .i64 t203, .int .u32 t204, .int .u32 t205, .string (⟨#[]⟩ : ByteArray)]) ?_ 9 _ rfl; (with_reducible repeat (first | refine blk_drewN ?_ _ | refine blk_drew ?_ | refine blk_alloc ?_ _)); refine blk_put (cs := #[.int .i64 t197, .int .i64 t198, .bool t199, .bool t200, .int .i64 t201, .int .i64 t202, .int .i64 t203, .int .u32 t204, .int .u32 0, .string (⟨#[]⟩ : ByteArray)]) ?_ 8 _ rfl; (with_reducible repeat (first | refine blk_drewN ?_ _ | refine blk_drew ?_ | refine blk_alloc ?_ _)); refine blk_put (cs := #[.int .i64 t197, .int .i64 t198, .bool t199, .bool t200, .int .i64 t201, .int .i64 t202, .int .i64 t203, .int .u32 0, .int .u32 0, .string (⟨#[]⟩ : ByteArray)]) ?_ 7 _ rfl; (with_reducible repeat (first | refine blk_drewN ?_ _ | refine blk_drew ?_ | refine blk_alloc ?_ _)); refine blk_put (cs := #[.int .i64 t197, .int .i64 t198, .bool t199, .bool t200, .int .i64 t201, .int .i64 t202, .int .i64 0, .int .u32 0, .int .u32 0, .string (⟨#[]⟩ : ByteArray)]) ?_ 6 _ rfl; (with_reducible repeat (first | refine blk_drewN ?_ _ | refine blk_drew ?_ | refine blk_alloc ?_ _)); refine blk_put (cs := #[.int .i64 t197, .int .i64 t198, .bool t199, .bool t200, .int .i64 t201, .int .i64 0, .int .i64 0, .int .u32 0, .int .u32 0, .string (⟨#[]⟩ : ByteArray)]) ?_ 5 _ rfl; (with_reducible repeat (first | refine blk_drewN ?_ _ | refine blk_drew ?_ | refine blk_alloc ?_ _)); refine blk_put (cs := #[.int .i64 t197, .int .i64 t198, .bool t199, .bool t200, .int .i64 0, .int .i64 0, .int .i64 0, .int .u32 0, .int .u32 0, .string (⟨#[]⟩ : ByteArray)]) ?_ 4 _ rfl; (with_reducible repeat (first | refine blk_drewN ?_ _ | refine blk_drew ?_ | refine blk_alloc ?_ _)); refine blk_put (cs := #[.int .i64 t197, .int .i64 t198, .bool t199, .bool false, .int .i64 0, .int .i64 0, .int .i64 0, .int .u32 0, .int .u32 0, .string (⟨#[]⟩ : ByteArray)]) ?_ 3 _ rfl; (with_reducible repeat (first | refine blk_drewN ?_ _ | refine blk_drew ?_ | refine blk_alloc ?_ _)); refine blk_put (cs := #[.int .i64 t197, .int .i64 t198, .bool false, .bool false, .int .i64 0, .int .i64 0, .int .i64 0, .int .u32 0, .int .u32 0, .string (⟨#[]⟩ : ByteArray)]) ?_ 2 _ rfl; (with_reducible repeat (first | refine blk_drewN ?_ _ | refine blk_drew ?_ | refine blk_alloc ?_ _)); refine blk_put (cs := #[.int .i64 t197, .int .i64 0, .bool false, .bool false, .int .i64 0, .int .i64 0, .int .i64 0, .int .u32 0, .int .u32 0, .string (⟨#[]⟩ : ByteArray)]) ?_ 1 _ rfl; (with_reducible repeat (first | refine blk_drewN ?_ _ | refine blk_drew ?_ | refine blk_alloc ?_ _)); refine blk_put (cs := #[.int .i64 0, .int .i64 0, .bool false, .bool false, .int .i64 0, .int .i64 0, .int .i64 0, .int .u32 0, .int .u32 0, .string (⟨#[]⟩ : ByteArray)]) ?_ 0 _ rfl; (with_reducible repeat (first | refine blk_drewN ?_ _ | refine blk_drew ?_ | refine blk_alloc ?_ _)); exact BK208.out⟩
         have n1_ : Aside0 (Below w.heap.size w ((((((((((w20.setCell ⟨gb208, 0, none⟩ (.int .i64 t197)).setCell ⟨gb208, 1, none⟩ (.int .i64 t198)).setCell ⟨gb208, 2, none⟩ (.bool t199)).setCell ⟨gb208, 3, none⟩ (.bool t200)).setCell ⟨gb208, 4, none⟩ (.int .i64 t201)).setCell ⟨gb208, 5, none⟩ (.int .i64 t202)).setCell ⟨gb208, 6, none⟩ (.int .i64 t203)).setCell ⟨gb208, 7, none⟩ (.int .u32 t204)).setCell ⟨gb208, 8, none⟩ (.int .u32 t205)).setCell ⟨gb208, 9, none⟩ (.string t206))) := ⟨by repeat (first | (with_reducible first | exact HB.out | apply below_alloc | apply pw_below_drewN | apply below_drew1 | refine below_set ?_ GE208.out) | exact HB.out)⟩
         (try clear BK208)
         (try clear HB)
         generalize ((((((((((w20.setCell ⟨gb208, 0, none⟩ (.int .i64 t197)).setCell ⟨gb208, 1, none⟩ (.int .i64 t198)).setCell ⟨gb208, 2, none⟩ (.bool t199)).setCell ⟨gb208, 3, none⟩ (.bool t200)).setCell ⟨gb208, 4, none⟩ (.int .i64 t201)).setCell ⟨gb208, 5, none⟩ (.int .i64 t202)).setCell ⟨gb208, 6, none⟩ (.int .i64 t203)).setCell ⟨gb208, 7, none⟩ (.int .u32 t204)).setCell ⟨gb208, 8, none⟩ (.int .u32 t205)).setCell ⟨gb208, 9, none⟩ (.string t206)) = w22 at n0_ n1_ ⊢
         have BK208 := n0_
         have HB := n1_
         clear n0_ n1_
         (try (rw [drewN_self w22]; generalize hq_ : World.drewN w22 _ = w22; have n0_ : Aside0 (w22.heap[gb208]? = some (.cells #[.int .i64 t197, .int .i64 t198, .bool t199, .bool t200, .int .i64 t201, .int .i64 t202, .int .i64 t203, .int .u32 t204, .int .u32 t205, .string t206] 24 (0, 0))) := ⟨by rw [← hq_]; exact (by (with_reducible repeat (first | refine blk_drewN ?_ _ | refine blk_drew ?_ | refine blk_alloc ?_ _)); exact BK208.out)⟩; have n1_ : Aside0 (Below w.heap.size w w22) := ⟨by rw [← hq_]; exact (by repeat (first | (with_reducible first | exact HB.out | apply below_alloc | apply pw_below_drewN | apply below_drew1 | refine below_set ?_ GE208.out) | exact HB.out))⟩; clear BK208 HB hq_; have BK208 := n0_; have HB := n1_; clear n0_ n1_))
         have n0_ := Aside0.mk (blk_drew BK208.out)
         have n1_ := Aside0.mk (below_drew1 HB.out)
         clear BK208
         clear HB
         have BK208 := n0_
         have HB := n1_
         clear n0_ n1_
         refine start_ (n := 17) (S := fun w' => True) (ds := []) #[false, false, false, false, false, false, false, false, false, false, false, false, false, false, false, false, false] (by kernel_rfl) rfl rfl trivial (fun hHeld => ?_); refine with_tabW inet_Older.tab8 inet_Older.bits8 (fun HT_ HW_ => ?_)
         generalize w22.drew = w23 at BK208 HB hHeld ⊢
         refine pure_ (i := 0) (N := some 25) (v := ?_) (a' := ?_) #[true, false, false, false, false, false, false, false, false, false, false, false, false, false, false, false, false] rfl rfl (any_of HT_.out (by kernel_rfl)) (fun _ _ _ h => h) (Or.inl ⟨by rfl, ?_⟩) ?_ ?_
         rotate_left
         ·intro w'
          go_simp
          with_reducible rfl
         rotate_left
         ·simp only [Act.put, List.setIfInBounds_toArray, List.set_cons_zero, List.set_cons_succ, i64_w, i32_w]
          rfl
         refine pure_ (i := 1) (N := some 26) (v := ?_) (a' := ?_) #[true, true, false, false, false, false, false, false, false, false, false, false, false, false, false, false, false] rfl rfl (any_of HT_.out (by kernel_rfl)) (fun _ _ _ h => h) (Or.inl ⟨by rfl, ?_⟩) ?_ ?_
         rotate_left
         ·intro w'
          go_simp
          with_reducible rfl
         rotate_left
         ·simp only [Act.put, List.setIfInBounds_toArray, List.set_cons_zero, List.set_cons_succ, i64_w, i32_w]
          rfl
         refine pure_ (i := 2) (N := some 27) (v := ?_) (a' := ?_) #[true, true, true, false, false, false, false, false, false, false, false, false, false, false, false, false, false] rfl rfl (any_of HT_.out (by kernel_rfl)) (fun _ _ _ h => h) (Or.inl ⟨by rfl, ?_⟩) ?_ ?_
         rotate_left
         ·intro w'
          go_simp
          with_reducible rfl
         rotate_left
         ·simp only [Act.put, List.setIfInBounds_toArray, List.set_cons_zero, List.set_cons_succ, i64_w, i32_w]
          rfl
         refine pure_ (i := 5) (N := some 30) (v := ?_) (a' := ?_) #[true, true, true, false, false, true, false, false, false, false, false, false, false, false, false, false, false] rfl rfl (any_of HT_.out (by kernel_rfl)) (fun _ _ _ h => h) (Or.inl ⟨by rfl, ?_⟩) ?_ ?_
         rotate_left
         ·intro w'
          go_simp
          with_reducible rfl
         rotate_left
         ·simp only [Act.put, List.setIfInBounds_toArray, List.set_cons_zero, List.set_cons_succ, i64_w, i32_w]
          rfl
         refine pure_ (i := 7) (N := some 32) (v := ?_) (a' := ?_) #[true, true, true, false, false, true, false, true, false, false, false, false, false, false, false, false, false] rfl rfl (any_of HT_.out (by kernel_rfl)) (fun _ _ _ h => h) (Or.inl ⟨by rfl, ?_⟩) ?_ ?_
         rotate_left
         ·intro w'
          go_simp
          with_reducible rfl
         rotate_left
         ·simp only [Act.put, List.setIfInBounds_toArray, List.set_cons_zero, List.set_cons_succ, i64_w, i32_w]
          rfl
         refine pure_ (i := 8) (N := some 33) (v := ?_) (a' := ?_) #[true, true, true, false, false, true, false, true, true, false, false, false, false, false, false, false, false] rfl rfl (any_of HT_.out (by kernel_rfl)) (fun _ _ _ h => h) (Or.inl ⟨by rfl, ?_⟩) ?_ ?_
         rotate_left
         ·intro w'
          go_simp
          with_reducible rfl
         rotate_left
         ·simp only [Act.put, List.setIfInBounds_toArray, List.set_cons_zero, List.set_cons_succ, i64_w, i32_w]
          rfl
         refine pure_ (i := 12) (N := some 37) (v := ?_) (a' := ?_) #[true, true, true, false, false, true, false, true, true, false, false, false, true, false, false, false, false] rfl rfl (any_of HT_.out (by kernel_rfl)) (fun _ _ _ h => h) (Or.inl ⟨by rfl, ?_⟩) ?_ ?_
         rotate_left
         ·intro w'
          go_simp
          with_reducible rfl
         rotate_left
         ·simp only [Act.put, List.setIfInBounds_toArray, List.set_cons_zero, List.set_cons_succ, i64_w, i32_w]
          rfl
         refine pure_ (i := 13) (N := some 38) (v := ?_) (a' := ?_) #[true, true, true, false, false, true, false, true, true, false, false, false, true, true, false, false, false] rfl rfl (any_of HT_.out (by kernel_rfl)) (fun _ _ _ h => h) (Or.inl ⟨by rfl, ?_⟩) ?_ ?_
         rotate_left
         ·intro w'
          go_simp
          with_reducible rfl
         rotate_left
         ·simp only [Act.put, List.setIfInBounds_toArray, List.set_cons_zero, List.set_cons_succ, i64_w, i32_w]
          rfl
         refine one_ (i := 3) (N := some 28) #[true, true, true, true, false, true, false, true, true, false, false, false, true, true, false, false, false] rfl rfl (one_of HT_.out (by kernel_rfl)) (by decide) (fun K hK => ?_)
         refine goes_ Tryd.func21 (by kernel_rfl) rfl #[.int .i64 (wrap64 (t209 - 256))] (by first | rfl | exact wanted_on rfl rfl rfl (by first | rfl | (simp [*]; done) | (simp [*, IntKind.wrap_u32]; done))) rfl rfl (by (try simp only [List.map_toArray, List.map_cons, List.map_nil]); first | done | rfl | (simp only [List.length_drop, List.length_take]; rfl)) ?_
         with_reducible refine (inet_word.calls k (wrap64 (t209 - 256)) t210 _ A11.out).mono ?_
         rintro e w24 ⟨rfl, hb⟩
         refine ⟨_, rfl, ?_⟩
         have n0_ := Aside0.mk (blk_below (g := gb208) (o := .cells #[.int .i64 t197, .int .i64 t198, .bool t199, .bool t200, .int .i64 t201, .int .i64 t202, .int .i64 t203, .int .u32 t204, .int .u32 t205, .string t206] 24 (0, 0)) (by (with_reducible repeat (first | refine blk_drewN ?_ _ | refine blk_drew ?_ | refine blk_alloc ?_ _)); exact BK208.out) hb)
         have n1_ := Aside0.mk (below_step (by repeat (first | (with_reducible first | exact HB.out | apply below_alloc | apply pw_below_drewN | apply below_drew1 | refine below_set ?_ GE208.out) | exact HB.out)) hb)
         clear BK208
         clear HB
         have BK208 := n0_
         have HB := n1_
         clear n0_ n1_
         (try clear hb)
         (try clear hb2)
         (try clear hk)
         (try clear hi)
         refine hK.out _ _ trivial (fun hHeld => ?_)
         clear hK K
         refine norm_ (a' := ?_) ?_ ?_
         rotate_left
         ·show Act.put _ (some 28) _ = _
          simp only [Act.put, List.setIfInBounds_toArray, List.set_cons_zero, List.set_cons_succ, i64_w, i32_w]
          rfl
         refine pure_ (i := 4) (N := some 29) (v := ?_) (a' := ?_) #[true, true, true, true, true, true, false, true, true, false, false, false, true, true, false, false, false] rfl rfl (any_of HT_.out (by kernel_rfl)) (fun _ _ _ h => h) (Or.inl ⟨by rfl, ?_⟩) ?_ ?_
         rotate_left
         ·intro w'
          go_simp
          first | with_reducible rfl | (rw [if_neg (by have hz0_ : (⟨#[]⟩ : ByteArray).size = 0 := rfl; (try simp only [decide_eq_true_eq, ByteArray.size_append, ByteArray.size_extract, eq_iff_iff, iff_true, iff_false, Nat.not_lt] at *); omega)]; try with_reducible rfl)
         rotate_left
         ·simp only [Act.put, List.setIfInBounds_toArray, List.set_cons_zero, List.set_cons_succ, i64_w, i32_w]
          rfl
         refine one_ (i := 6) (N := some 31) #[true, true, true, true, true, true, true, true, true, false, false, false, true, true, false, false, false] rfl rfl (one_of HT_.out (by kernel_rfl)) (by decide) (fun K hK => ?_)
         refine goes_ Tryd.func31 (by kernel_rfl) rfl #[.string a0, .int .i64 10] (by first | rfl | exact wanted_on rfl rfl rfl (by first | rfl | (simp [*]; done) | (simp [*, IntKind.wrap_u32]; done))) rfl rfl (by (try simp only [List.map_toArray, List.map_cons, List.map_nil]); first | done | rfl | (simp only [List.length_drop, List.length_take]; rfl)) ?_
         with_reducible refine (inet_get.calls a0 10 t211 _ A13.out).mono ?_
         rintro e w' ⟨rfl, ⟨nd, rfl⟩⟩
         refine ⟨_, rfl, ?_⟩
         refine hK.out _ _ trivial (fun hHeld => ?_)
         clear hK K
         refine norm_ (a' := ?_) ?_ ?_
         rotate_left
         ·show Act.put _ (some 31) _ = _
          simp only [Act.put, List.setIfInBounds_toArray, List.set_cons_zero, List.set_cons_succ, i64_w, i32_w]
          rfl
         refine one_ (i := 9) (N := some 34) #[true, true, true, true, true, true, true, true, true, true, false, false, true, true, false, false, false] rfl rfl (one_of HT_.out (by kernel_rfl)) (by decide) (fun K hK => ?_)
         refine goes_ Tryd.func32 (by kernel_rfl) rfl #[.int .i64 t211, .int .i64 t209, .int .i64 (wrap64 (t209 - 256))] (by first | rfl | exact wanted_on rfl rfl rfl (by first | rfl | (simp [*]; done) | (simp [*, IntKind.wrap_u32]; done))) rfl rfl (by (try simp only [List.map_toArray, List.map_cons, List.map_nil]); first | done | rfl | (simp only [List.length_drop, List.length_take]; rfl)) ?_
         with_reducible refine (csum_Patch.calls k t211 t209 (wrap64 (t209 - 256)) t212 _ A14.out).mono ?_
         rintro e w' ⟨rfl, ⟨nd, rfl⟩⟩
         refine ⟨_, rfl, ?_⟩
         refine hK.out _ _ trivial (fun hHeld => ?_)
         clear hK K
         refine norm_ (a' := ?_) ?_ ?_
         rotate_left
         ·show Act.put _ (some 34) _ = _
          simp only [Act.put, List.setIfInBounds_toArray, List.set_cons_zero, List.set_cons_succ, i64_w, i32_w]
          rfl
         refine one_ (i := 10) (N := some 35) #[true, true, true, true, true, true, true, true, true, true, true, false, true, true, false, false, false] rfl rfl (one_of HT_.out (by kernel_rfl)) (by decide) (fun K hK => ?_)
         refine goes_ Tryd.func21 (by kernel_rfl) rfl #[.int .i64 t212] (by first | rfl | exact wanted_on rfl rfl rfl (by first | rfl | (simp [*]; done) | (simp [*, IntKind.wrap_u32]; done))) rfl rfl (by (try simp only [List.map_toArray, List.map_cons, List.map_nil]); first | done | rfl | (simp only [List.length_drop, List.length_take]; rfl)) ?_
         with_reducible refine (inet_word.calls k t212 t213 _ A15.out).mono ?_
         rintro e w25 ⟨rfl, hb⟩
         refine ⟨_, rfl, ?_⟩
         have n0_ := Aside0.mk (blk_below (g := gb208) (o := .cells #[.int .i64 t197, .int .i64 t198, .bool t199, .bool t200, .int .i64 t201, .int .i64 t202, .int .i64 t203, .int .u32 t204, .int .u32 t205, .string t206] 24 (0, 0)) (by (with_reducible repeat (first | refine blk_drewN ?_ _ | refine blk_drew ?_ | refine blk_alloc ?_ _)); exact BK208.out) hb)
         have n1_ := Aside0.mk (below_step (by repeat (first | (with_reducible first | exact HB.out | apply below_alloc | apply pw_below_drewN | apply below_drew1 | refine below_set ?_ GE208.out) | exact HB.out)) hb)
         clear BK208
         clear HB
         have BK208 := n0_
         have HB := n1_
         clear n0_ n1_
         (try clear hb)
         (try clear hb2)
         (try clear hk)
         (try clear hi)
         refine hK.out _ _ trivial (fun hHeld => ?_)
         clear hK K
         refine norm_ (a' := ?_) ?_ ?_
         rotate_left
         ·show Act.put _ (some 35) _ = _
          simp only [Act.put, List.setIfInBounds_toArray, List.set_cons_zero, List.set_cons_succ, i64_w, i32_w]
          rfl
         refine pure_ (i := 11) (N := some 36) (v := ?_) (a' := ?_) #[true, true, true, true, true, true, true, true, true, true, true, true, true, true, false, false, false] rfl rfl (any_of HT_.out (by kernel_rfl)) (fun _ _ _ h => h) (Or.inl ⟨by rfl, ?_⟩) ?_ ?_
         rotate_left
         ·intro w'
          go_simp
          first | with_reducible rfl | (rw [if_neg (by have hz0_ : (⟨#[]⟩ : ByteArray).size = 0 := rfl; (try simp only [decide_eq_true_eq, ByteArray.size_append, ByteArray.size_extract, eq_iff_iff, iff_true, iff_false, Nat.not_lt] at *); omega)]; try with_reducible rfl)
         rotate_left
         ·simp only [Act.put, List.setIfInBounds_toArray, List.set_cons_zero, List.set_cons_succ, i64_w, i32_w]
          rfl
         refine pure_ (i := 14) (N := some 39) (v := ?_) (a' := ?_) #[true, true, true, true, true, true, true, true, true, true, true, true, true, true, true, false, false] rfl rfl (any_of HT_.out (by kernel_rfl)) (fun _ _ _ h => h) (Or.inl ⟨by rfl, ?_⟩) ?_ ?_
         rotate_left
         ·intro w'
          go_simp
          first | with_reducible rfl | (rw [if_neg (by have hz0_ : (⟨#[]⟩ : ByteArray).size = 0 := rfl; (try simp only [decide_eq_true_eq, ByteArray.size_append, ByteArray.size_extract, eq_iff_iff, iff_true, iff_false, Nat.not_lt] at *); omega)]; try with_reducible rfl)
         rotate_left
         ·simp only [Act.put, List.setIfInBounds_toArray, List.set_cons_zero, List.set_cons_succ, i64_w, i32_w]
          rfl
         refine pure_ (i := 15) (N := some 2) (v := ?_) (a' := ?_) #[true, true, true, true, true, true, true, true, true, true, true, true, true, true, true, true, false] rfl rfl (any_of HT_.out (by kernel_rfl)) (fun _ _ _ h => h) (Or.inl ⟨by rfl, ?_⟩) ?_ ?_
         rotate_left
         ·intro w'
          go_simp
          with_reducible rfl
         rotate_left
         ·simp only [Act.put, List.setIfInBounds_toArray, List.set_cons_zero, List.set_cons_succ, i64_w, i32_w]
          rfl
         refine pure_ (i := 16) (N := some 3) (v := ?_) (a' := ?_) #[true, true, true, true, true, true, true, true, true, true, true, true, true, true, true, true, true] rfl rfl (any_of HT_.out (by kernel_rfl)) (fun _ _ _ h => h) (Or.inl ⟨by rfl, ?_⟩) ?_ ?_
         rotate_left
         ·intro w'
          go_simp
          with_reducible rfl
         rotate_left
         ·simp only [Act.put, List.setIfInBounds_toArray, List.set_cons_zero, List.set_cons_succ, i64_w, i32_w]
          rfl
         refine done_ (done_of HT_.out (by kernel_rfl)) ?_
         try go_wp2
         go_ret2
         exact ⟨by first | rfl | (simp [errW_none, errW_some] <;> rfl) | (simp [*, errW_none, errW_some] <;> rfl) | (simp [*, IntKind.wrap_u32]; done) | (simp_all [IntKind.wrap_u32]; done), by repeat (first | (with_reducible first | exact HB.out | apply below_alloc | apply pw_below_drewN | apply below_drew1 | refine below_set ?_ GE208.out) | exact HB.out)⟩
        ·rw [if_neg c18] at H
         exact absurd H (by simp)
       ·rw [if_neg c17] at H
        exact absurd H (by simp)
      ·rw [if_neg c16] at H
       exact absurd H (by simp)
     ·rw [if_neg c12] at H
      exact absurd H (by simp)
    ·rw [if_neg c10] at H
     exact absurd H (by simp)
   ·rw [if_neg c9] at H
    exact absurd H (by simp)
 ·rw [if_neg c3] at H
  have c3b0 : (t207 == 0) = false := beq_eq_false_iff_ne.mpr c3
  have c3b1 : (t207 != 0) = true := bne_iff_ne.mpr c3
  simp only [Option.some.injEq, Prod.mk.injEq] at H
  obtain ⟨rfl, rfl⟩ := H
  go_enter Tryd.func18, Tryd.ntmps18
  go_wp2_with (first | ((with_reducible refine gate_callee (f := 16) rfl ?_); refine goesL_ (some 10) rfl rfl Tryd.func16 (by kernel_rfl) rfl #[.string a0] rfl (by (try simp only [List.map_toArray, List.map_cons, List.map_nil]); first | done | rfl | (simp only [List.length_drop, List.length_take]; rfl)) ?_; (with_reducible refine (inet_Parse.calls k a0 t197 t198 t199 t200 t201 t202 t203 t204 t205 t206 t207 _ ?sideL A2.out).mono ?_); (case sideL => exact laid_below HLD.out (by repeat (first | (with_reducible first | exact HB.out | apply below_alloc | apply pw_below_drewN | apply below_drew1) | exact HB.out))); rintro e w26 ⟨rfl, hb⟩; refine ⟨_, rfl, ?_⟩; have n0_ := Aside0.mk (below_step (by repeat (first | (with_reducible first | exact HB.out | apply below_alloc | apply pw_below_drewN | apply below_drew1) | exact HB.out)) hb); clear HB; have HB := n0_; clear n0_; (try clear hb); (try clear hb2); (try clear hk); (try clear hi)) | ((with_reducible refine gate_dst (N := 4) rfl ?_); refine box_event ?hg (N := 4) ?hd (cs := #[.int .i64 0, .int .i64 0, .bool false, .bool false, .int .i64 0, .int .i64 0, .int .i64 0, .int .u32 0, .int .u32 0, .string (⟨#[]⟩ : ByteArray)]) (t := 24) ?hr ?_; (case hd => rfl); (case hg => rfl); (case hr => first | (go_simp; done) | (go_simp; rfl)); intro gb208 hg w27 hbox hb; have n0_ := Aside0.mk (below_step (by repeat (first | (with_reducible first | exact HB.out | apply below_alloc | apply pw_below_drewN | apply below_drew1) | exact HB.out)) hb); have n1_ := Aside0.mk (hbox); have n2_ := Aside0.mk ((by rw [hg]; exact (below_size (by repeat (first | (with_reducible first | exact HB.out | apply below_alloc | apply pw_below_drewN | apply below_drew1) | exact HB.out))) : w.heap.size ≤ gb208)); have n3_ := Aside0.mk ((by rw [hg]; exact (below_size (by repeat (first | (with_reducible first | exact HB.out | apply below_alloc | apply pw_below_drewN | apply below_drew1) | exact HB.out))) : w.heap.size ≤ gb208)); clear HB; have HB := n0_; have BK208 := n1_; have GW208 := n2_; have GE208 := n3_; clear n0_ n1_ n2_ n3_; clear hb hbox hg; have hcz28_0 : w27.cell? ⟨gb208, 0, none⟩ = some (.int .i64 0) := (blk_cell BK208.out 0).trans rfl; have hcz28_1 : w27.cell? ⟨gb208, 1, none⟩ = some (.int .i64 0) := (blk_cell BK208.out 1).trans rfl; have hcz28_2 : w27.cell? ⟨gb208, 2, none⟩ = some (.bool false) := (blk_cell BK208.out 2).trans rfl; have hcz28_3 : w27.cell? ⟨gb208, 3, none⟩ = some (.bool false) := (blk_cell BK208.out 3).trans rfl; have hcz28_4 : w27.cell? ⟨gb208, 4, none⟩ = some (.int .i64 0) := (blk_cell BK208.out 4).trans rfl; have hcz28_5 : w27.cell? ⟨gb208, 5, none⟩ = some (.int .i64 0) := (blk_cell BK208.out 5).trans rfl; have hcz28_6 : w27.cell? ⟨gb208, 6, none⟩ = some (.int .i64 0) := (blk_cell BK208.out 6).trans rfl; have hcz28_7 : w27.cell? ⟨gb208, 7, none⟩ = some (.int .u32 0) := (blk_cell BK208.out 7).trans rfl; have hcz28_8 : w27.cell? ⟨gb208, 8, none⟩ = some (.int .u32 0) := (blk_cell BK208.out 8).trans rfl; have hcz28_9 : w27.cell? ⟨gb208, 9, none⟩ = some (.string (⟨#[]⟩ : ByteArray)) := (blk_cell BK208.out 9).trans rfl; have hfz28_0 := blk_frozen BK208.out 0; have hfz28_1 := blk_frozen BK208.out 1; have hfz28_2 := blk_frozen BK208.out 2; have hfz28_3 := blk_frozen BK208.out 3; have hfz28_4 := blk_frozen BK208.out 4; have hfz28_5 := blk_frozen BK208.out 5; have hfz28_6 := blk_frozen BK208.out 6; have hfz28_7 := blk_frozen BK208.out 7; have hfz28_8 := blk_frozen BK208.out 8; have hfz28_9 := blk_frozen BK208.out 9))
  go_ret2
  exact ⟨by first | rfl | (simp [errW_none, errW_some] <;> rfl) | (simp [*, errW_none, errW_some] <;> rfl) | (simp [*, IntKind.wrap_u32]; done) | (simp_all [IntKind.wrap_u32]; done), by repeat (first | (with_reducible first | exact HB.out | apply below_alloc | apply pw_below_drewN | apply below_drew1 | refine below_set ?_ GE208.out) | exact HB.out)⟩

end Go.Proofs.YtigagipeaheclaaDoor.P
