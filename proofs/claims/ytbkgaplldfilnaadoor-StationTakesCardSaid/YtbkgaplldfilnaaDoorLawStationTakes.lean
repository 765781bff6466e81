/- The row of the law StationTakes: for every input the law returns true and each argument reads as it read before (a card: the variable errors.errorType tied to the program's text). Its walk: gangwaylaw20_StationTakes.calls; what is left: Pure.StationTakes. -/
import Derived.Test.YtbkgaplldfilnaaDoorRows
import Derived.Test.YtbkgaplldfilnaaDoorTie
import Derived.Test.YtbkgaplldfilnaaDoorCards
import Derived.Test.YtbkgaplldfilnaaDoorPx37
import Derived.Test.YtbkgaplldfilnaaDoorPureStationTakes
import Derived.WalkKit
import Derived.ProofKit
import Derived.OpenShut
import Derived.ShutString
import Derived.ChangeOld
import Derived.Below
import Derived.SizedLaws
import Derived.Carry
import Derived.ChangeArms
import Derived.ChangeSame
import Derived.ChangeVars
import Derived.JoinedOf
import Derived.RowKit
import Derived.RowKitTokens
import Derived.LaidLaws
import Derived.LaidHandle
import Derived.Stop.Joined
import Derived.Handed
import Derived.SevenTiedAt
namespace Go.Proofs.YtbkgaplldfilnaaDoor.stationTakes
open Go.ChangeShapes Go.WideShapes Go.ChangeAt Go.RowKit
open Go.ChangeMaps (open_string shut_string)
set_option linter.unusedVariables false
set_option linter.unusedSimpArgs false
theorem own : ownKnob Tryd.prog.godebug = none := by kernel_rfl
theorem laidOut : laidOutB Tryd.prog = true := by kernel_rfl
theorem field_of {H : Type} {enc : TypeId × Value → H} {Q : Program} {w : World} {base : Nat} {spare : Nat → Bool} {held : Bool} {fuel : Nat} {t : TypeId} {cs : List Value} {x : DataW H × List MemPlace} {fs : Array Field} (ht : Q.underlying t = some (.struct fs)) (h : DataW.trod enc Q w base spare held fuel t cs = some x) (i : Nat) (f : Field) (hf : fs[i]? = some f) :
    ∃ m y, DataW.trod enc Q w base spare held m f.type ((cs.drop f.offset).take (Q.cellsOf f.type)) = some y := by
  obtain ⟨xs, m, _, _, _, hl, hx⟩ := DataW.trod_struct ht h
  have hi : i < xs.length := by rw [hl]; exact (Array.getElem?_eq_some_iff.1 hf).1
  exact ⟨m, _, (hx i f hf).trans (List.getElem?_eq_getElem hi)⟩
theorem arr2 {α : Type} {cs : Array α} (h : cs.size = 2) : ∃ c0 c1, cs = #[c0, c1] := by
  obtain ⟨l⟩ := cs
  match l, h with
  | [c0, c1], _ => exact ⟨c0, c1, rfl⟩
theorem arr8 {α : Type} {cs : Array α} (h : cs.size = 8) : ∃ c0 c1 c2 c3 c4 c5 c6 c7, cs = #[c0, c1, c2, c3, c4, c5, c6, c7] := by
  obtain ⟨l⟩ := cs
  match l, h with
  | [c0, c1, c2, c3, c4, c5, c6, c7], _ => exact ⟨c0, c1, c2, c3, c4, c5, c6, c7, rfl⟩
theorem et : Tryd.prog.globalNamed "errors.errorType" = some 0 := by kernel_rfl
theorem rt : (Tryd.prog.cutTypes.find? (·.1 == "internal/reflectlite.rtype")).map (·.2) = some 112 := by kernel_rfl
theorem oneRow : ((List.range 180).filter fun t => Tryd.prog.rowNamed t [101, 114, 114, 111, 114]) = [51] := by kernel_rfl
theorem nTypes : Tryd.prog.types.size = 180 := by kernel_rfl
/-- What the condition gives a walk: the variable's one cell. -/
theorem handle_of_laid {W : World} (h : laidMetH Tryd.prog Rows.stationTakesRow.laid W) : W.cell? ⟨0, 0, none⟩ = some (.iface 112 (.agg #[.pointer (some ⟨2, 51, none⟩)])) := by
  have h' : laidMet Tryd.prog [] W ∧ handlesMet Tryd.prog Rows.stationTakesRow.laid W := h
  obtain ⟨name, u, ty, e1, e2, e3, e4, e5⟩ := h'.2 _ (List.mem_singleton.2 rfl)
  have en : name = [101, 114, 114, 111, 114] := (Option.some.inj e1).symm
  subst en
  obtain rfl := Option.some.inj (rt.symm.trans e2)
  have hm : ty ∈ (List.range 180).filter fun t => Tryd.prog.rowNamed t [101, 114, 114, 111, 114] := List.mem_filter.2 ⟨List.mem_range.2 (by rw [← nTypes]; exact e3), e4⟩
  rw [oneRow] at hm
  obtain rfl := List.mem_singleton.1 hm
  have hh : typeHandle Tryd.prog 51 = .pointer (some ⟨2, 51, none⟩) := by kernel_rfl
  rw [hh] at e5
  simpa using World.var?_cell et e5 0
/-- A world that meets the condition: the settled one, the variable's cell laid. -/
noncomputable def laidWorld (os : Os) : World :=
  let w0 := World.holding Tryd.prog os ⟨#[], #[], []⟩
  { w0 with heap := w0.heap.modify 0 fun
      | .cells _ t frozen => .cells #[.iface 112 (.agg #[.pointer (some ⟨2, 51, none⟩)])] t frozen
      | o => o }
theorem laidWorld_met (os : Os) (args : Array Value) : laidMetH Tryd.prog Rows.stationTakesRow.laid ((laidWorld os).forCall (fun _ _ => 0) ⟨#[], args, []⟩).memory :=
  laidMetH_of_parts (laidMet_nil _ _) (by kernel_rfl)
set_option maxRecDepth 100000 in
theorem lifted (os : Os) (started : os.Started) (H : Type) (enc : TypeId × Value → H) :
    ReturnsInHanded {} Tryd.checked os 3 .any (fun w args => (Rows.stationTakesSpec.pre enc Tryd.prog Tryd.f3 [] false w args ∧ laidMetH Tryd.prog Rows.stationTakesRow.laid w) ∧ sizedMet enc Tryd.prog Tryd.f3 (OpenSpec.ofChange Rows.stationTakesSpec) false w args) (Rows.stationTakesSpec.post enc Tryd.prog Tryd.f3 false true false false) := by
  refine returnsInHanded_of_change_and (C := Tryd.checked) (X := fun w _ => laidMetH Tryd.prog Rows.stationTakesRow.laid w) (fun _ _ _ hh h => h.of_heap hh) own started (by kernel_rfl) Tryd.func3
    (ChangeSpec.witness_at (enc := enc) (C := Tryd.checked) (os := os) (X := fun w _ => laidMetH Tryd.prog Rows.stationTakesRow.laid w) false (laidWorld os) #[.agg #[.int .u64 0, .int .u32 0], .agg #[.int .u64 0, .int .u64 0, .bool false, .int .i64 0, .bool false, .int .i64 0, .int .i64 0, .string ByteArray.empty]] 8 rfl (by kernel_rfl) (by kernel_rfl) (by kernel_rfl) (by kernel_rfl) (by kernel_rfl) (laidWorld_met os _)) ?_
  intro W base args ds gs before hval0 hW hcnd hsz0 hL0 _
  have hsz : (DataW.weightsEach Tryd.prog (Tryd.f3.params.toList ++ Rows.stationTakesSpec.plain.varTypes Tryd.prog) (ds ++ gs)).all (· ≤ reachBytes) = true := hsz0
  have hval : ∀ (j : Nat) t v, Tryd.f3.params[j]? = some t → args[j]? = some v → Value.okWide Tryd.prog W .any base t v := hval0
  have hW' := hW
  obtain ⟨p, q, hA0, hV, rfl, hfz, hnd⟩ := hW
  have hA : DataW.TrodAll enc Tryd.prog W 0 (fun _ => true) true Tryd.f3.params.toList args.toList ds p := hA0
  rw [Tryd.params3] at hA hval hsz
  obtain ⟨v0, vs0, d0, ds0, p0, q0, hargs, rfl, rfl, h0, r0⟩ := trodAll_cons hA
  obtain ⟨v1, vs1, d1, ds1, p1, q1, rfl, rfl, rfl, h1, r1⟩ := trodAll_cons r0
  obtain ⟨rfl, rfl, rfl⟩ := trodAll_nil r1
  obtain rfl : args = #[v0, v1] := by cases args; simp_all
  obtain ⟨rfl, rfl⟩ := trodVars_none hV
  have k0 := h0
  have lt0 : ∀ x ∈ p0, x.block < W.heap.size := by obtain ⟨m, hm⟩ := k0; exact DataW.trod_lt m _ _ _ hm
  obtain ⟨cs0, rfl, hs0⟩ := okWide_struct Tryd.underlying25 (hval 0 25 v0 rfl rfl)
  obtain ⟨c0_0, c0_1, rfl⟩ := arr2 (hs0.trans (show Tryd.prog.cellsOf 25 = 2 by kernel_rfl))
  obtain ⟨fu0, hf0⟩ := h0
  replace hf0 : DataW.trod enc Tryd.prog W 0 (fun _ => true) true fu0 25 [c0_0, c0_1] = some (d0, p0) := hf0
  obtain ⟨nq0_0_22, yq0_0_22, q0_0_22⟩ := field_of Tryd.underlying25 hf0 0 _ rfl
  replace q0_0_22 : DataW.trod enc Tryd.prog W 0 (fun _ => true) true nq0_0_22 22 [c0_0] = some yq0_0_22 := by simpa [show Tryd.prog.cellsOf 22 = 1 by kernel_rfl] using q0_0_22
  obtain ⟨a0_0, e0_0, _, w0_0⟩ := DataW.trod_int Tryd.underlying22 q0_0_22
  obtain rfl : c0_0 = .int .u64 a0_0 := by simpa using e0_0
  obtain ⟨nq0_1_23, yq0_1_23, q0_1_23⟩ := field_of Tryd.underlying25 hf0 1 _ rfl
  replace q0_1_23 : DataW.trod enc Tryd.prog W 0 (fun _ => true) true nq0_1_23 23 [c0_1] = some yq0_1_23 := by simpa [show Tryd.prog.cellsOf 23 = 1 by kernel_rfl] using q0_1_23
  obtain ⟨a0_1, e0_1, _, w0_1⟩ := DataW.trod_int Tryd.underlying23 q0_1_23
  obtain rfl : c0_1 = .int .u32 a0_1 := by simpa using e0_1
  have k1 := h1
  have lt1 : ∀ x ∈ p1, x.block < W.heap.size := by obtain ⟨m, hm⟩ := k1; exact DataW.trod_lt m _ _ _ hm
  obtain ⟨cs1, rfl, hs1⟩ := okWide_struct Tryd.underlying29 (hval 1 29 v1 rfl rfl)
  obtain ⟨c1_0, c1_1, c1_2, c1_3, c1_4, c1_5, c1_6, c1_7, rfl⟩ := arr8 (hs1.trans (show Tryd.prog.cellsOf 29 = 8 by kernel_rfl))
  obtain ⟨fu1, hf1⟩ := h1
  replace hf1 : DataW.trod enc Tryd.prog W 0 (fun _ => true) true fu1 29 [c1_0, c1_1, c1_2, c1_3, c1_4, c1_5, c1_6, c1_7] = some (d1, p1) := hf1
  obtain ⟨nq1_0_22, yq1_0_22, q1_0_22⟩ := field_of Tryd.underlying29 hf1 0 _ rfl
  replace q1_0_22 : DataW.trod enc Tryd.prog W 0 (fun _ => true) true nq1_0_22 22 [c1_0] = some yq1_0_22 := by simpa [show Tryd.prog.cellsOf 22 = 1 by kernel_rfl] using q1_0_22
  obtain ⟨a1_0, e1_0, _, w1_0⟩ := DataW.trod_int Tryd.underlying22 q1_0_22
  obtain rfl : c1_0 = .int .u64 a1_0 := by simpa using e1_0
  obtain ⟨nq1_1_22, yq1_1_22, q1_1_22⟩ := field_of Tryd.underlying29 hf1 1 _ rfl
  replace q1_1_22 : DataW.trod enc Tryd.prog W 0 (fun _ => true) true nq1_1_22 22 [c1_1] = some yq1_1_22 := by simpa [show Tryd.prog.cellsOf 22 = 1 by kernel_rfl] using q1_1_22
  obtain ⟨a1_1, e1_1, _, w1_1⟩ := DataW.trod_int Tryd.underlying22 q1_1_22
  obtain rfl : c1_1 = .int .u64 a1_1 := by simpa using e1_1
  obtain ⟨nq1_2_27, yq1_2_27, q1_2_27⟩ := field_of Tryd.underlying29 hf1 2 _ rfl
  replace q1_2_27 : DataW.trod enc Tryd.prog W 0 (fun _ => true) true nq1_2_27 27 [c1_2, c1_3, c1_4, c1_5] = some yq1_2_27 := by simpa [show Tryd.prog.cellsOf 27 = 4 by kernel_rfl] using q1_2_27
  obtain ⟨nq1_2_4, yq1_2_4, q1_2_4⟩ := field_of Tryd.underlying27 q1_2_27 0 _ rfl
  replace q1_2_4 : DataW.trod enc Tryd.prog W 0 (fun _ => true) true nq1_2_4 4 [c1_2] = some yq1_2_4 := by simpa [show Tryd.prog.cellsOf 4 = 1 by kernel_rfl] using q1_2_4
  obtain ⟨a1_2, e1_2, _⟩ := DataW.trod_bool Tryd.underlying4 q1_2_4
  obtain rfl : c1_2 = .bool a1_2 := by simpa using e1_2
  obtain ⟨nq1_3_3, yq1_3_3, q1_3_3⟩ := field_of Tryd.underlying27 q1_2_27 1 _ rfl
  replace q1_3_3 : DataW.trod enc Tryd.prog W 0 (fun _ => true) true nq1_3_3 3 [c1_3] = some yq1_3_3 := by simpa [show Tryd.prog.cellsOf 3 = 1 by kernel_rfl] using q1_3_3
  obtain ⟨a1_3, e1_3, _, w1_3⟩ := DataW.trod_int Tryd.underlying3 q1_3_3
  obtain rfl : c1_3 = .int .i64 a1_3 := by simpa using e1_3
  obtain ⟨nq1_4_4, yq1_4_4, q1_4_4⟩ := field_of Tryd.underlying27 q1_2_27 2 _ rfl
  replace q1_4_4 : DataW.trod enc Tryd.prog W 0 (fun _ => true) true nq1_4_4 4 [c1_4] = some yq1_4_4 := by simpa [show Tryd.prog.cellsOf 4 = 1 by kernel_rfl] using q1_4_4
  obtain ⟨a1_4, e1_4, _⟩ := DataW.trod_bool Tryd.underlying4 q1_4_4
  obtain rfl : c1_4 = .bool a1_4 := by simpa using e1_4
  obtain ⟨nq1_5_3, yq1_5_3, q1_5_3⟩ := field_of Tryd.underlying27 q1_2_27 3 _ rfl
  replace q1_5_3 : DataW.trod enc Tryd.prog W 0 (fun _ => true) true nq1_5_3 3 [c1_5] = some yq1_5_3 := by simpa [show Tryd.prog.cellsOf 3 = 1 by kernel_rfl] using q1_5_3
  obtain ⟨a1_5, e1_5, _, w1_5⟩ := DataW.trod_int Tryd.underlying3 q1_5_3
  obtain rfl : c1_5 = .int .i64 a1_5 := by simpa using e1_5
  obtain ⟨nq1_6_3, yq1_6_3, q1_6_3⟩ := field_of Tryd.underlying29 hf1 3 _ rfl
  replace q1_6_3 : DataW.trod enc Tryd.prog W 0 (fun _ => true) true nq1_6_3 3 [c1_6] = some yq1_6_3 := by simpa [show Tryd.prog.cellsOf 3 = 1 by kernel_rfl] using q1_6_3
  obtain ⟨a1_6, e1_6, _, w1_6⟩ := DataW.trod_int Tryd.underlying3 q1_6_3
  obtain rfl : c1_6 = .int .i64 a1_6 := by simpa using e1_6
  obtain ⟨nq1_7_9, yq1_7_9, q1_7_9⟩ := field_of Tryd.underlying29 hf1 4 _ rfl
  replace q1_7_9 : DataW.trod enc Tryd.prog W 0 (fun _ => true) true nq1_7_9 9 [c1_7] = some yq1_7_9 := by simpa [show Tryd.prog.cellsOf 9 = 1 by kernel_rfl] using q1_7_9
  obtain ⟨a1_7, e1_7, _, w1_7⟩ := DataW.trod_string Tryd.underlying9 q1_7_9
  obtain rfl : c1_7 = .string a1_7 := by simpa using e1_7
  have hL := handle_of_laid hL0
  clear hA0 hval0 hsz0 hsz
  obtain ⟨k, h⟩ := Pure.StationTakes a0_0 a0_1 a1_0 a1_1 a1_2 a1_3 a1_4 a1_5 a1_6 a1_7 w0_0 w0_1 w1_0 w1_1 w1_3 w1_5 w1_6 w1_7
  refine (P.gangwaylaw20_StationTakes.calls k a0_0 a0_1 a1_0 a1_1 a1_2 a1_3 a1_4 a1_5 a1_6 a1_7 true W hL h).mono ?_
  rintro e W' ⟨rfl, bel0⟩
  have bel : Below W.heap.size W W' := bel0
  exact ⟨_, rfl, _, _, _, [], _, [], hW', trodAll_mk1 (shut_bool Tryd.underlying4 _), (trodAll_cons_mk (Below.trod laidOut (by kernel_rfl) (of_decide_eq_true (by kernel_rfl)) k0 bel lt0) (trodAll_cons_mk (Below.trod laidOut (by kernel_rfl) (of_decide_eq_true (by kernel_rfl)) k1 bel lt1) trodAll_mk0)), rfl, bel.frame _, fun h => by cases h⟩
theorem over : Rows.stationTakesRow.holds Tryd.pinned (OpenSpec.ofChange Rows.stationTakesSpec) :=
  OpenClaim.holds_of_wide 3 Tryd.f3 rfl rfl rfl rfl rfl rfl rfl ⟨rfl, rfl, rfl, rfl, rfl⟩ rfl rfl rfl rfl rfl (by kernel_rfl) Tryd.func3 (by kernel_rfl)
    (of_decide_eq_true (by kernel_rfl)) (by unfold Func.isWrapper; first | (rw [if_pos (by decide +kernel)]; kernel_rfl) | (rw [if_neg (by decide +kernel)]; exact ⟨rfl, rfl⟩))
    (fun os started H enc _ => lifted os started H enc)
theorem card : Rows.StationTakesCardSaid :=
  Claim7.holds_tied_plain_at .later [] [.handle] true (true, "933b5153e7978e13246ebc3be69fde969174cca4986595d6e081264af6ecc788") true
    over (fun _ h => by cases h) (by kernel_rfl) (fun _ h => by cases h) stationTakes_row_tie rfl ⟨rfl, rfl⟩ (by kernel_rfl) rfl
    (fun f fn hf hfn => by
      obtain rfl : f = 3 := Option.some.inj ((show Tryd.prog.funcNamed "gangway/gangwaylaw20.StationTakes" = some 3 by kernel_rfl).symm.trans hf) |>.symm
      obtain rfl : fn = Tryd.f3 := (Option.some.inj (Tryd.func3.symm.trans hfn)).symm
      exact ⟨by kernel_rfl, fun j t ht => by
        rw [Tryd.params3] at ht
        have hj : t ∈ [25, 29] := by
          have := List.mem_of_getElem? (show ([25, 29] : List TypeId)[j]? = some t by simpa using ht)
          exact this
        have hall : ∀ t ∈ ([25, 29] : List TypeId), Tryd.prog.wantsStandIn t = false := by
          intro t ht
          simp only [List.mem_cons, List.not_mem_nil, or_false] at ht
          rcases ht with rfl | rfl
          · exact (show Tryd.prog.wantsStandIn 25 = false by kernel_rfl)
          · exact (show Tryd.prog.wantsStandIn 29 = false by kernel_rfl)
        exact hall t hj⟩)
    (by kernel_rfl)
theorem proved : Rows.StationTakesCardSaid := card
#print axioms proved
end Go.Proofs.YtbkgaplldfilnaaDoor.stationTakes
namespace Go.Proofs.YtbkgaplldfilnaaDoor
/-- The row, under a short name, for the claim. -/
theorem stationTakes_holds : Rows.StationTakesCardSaid := stationTakes.proved
end Go.Proofs.YtbkgaplldfilnaaDoor
