/- The row of the law BpduBuilds: for every input the law returns true and each argument reads as it read before (a card: the variable errors.errorType tied to the program's text). Its walk: gangwaylaw09_BpduBuilds.calls; what is left: Pure.BpduBuilds. -/
import Derived.Test.YtbfjlhjfpmgplaaDoorRows
import Derived.Test.YtbfjlhjfpmgplaaDoorTie
import Derived.Test.YtbfjlhjfpmgplaaDoorCards
import Derived.Test.YtbfjlhjfpmgplaaDoorPx19
import Derived.Test.YtbfjlhjfpmgplaaDoorPureBpduBuilds
import Derived.WalkKit
import Derived.ProofKit
import Derived.OpenShut
import Derived.ShutString
import Derived.ChangeOld
import Derived.Below
import Derived.SizedLaws
import Derived.Carry
import Derived.ChangeArms
import Derived.ChangeSame
import Derived.ChangeVars
import Derived.JoinedOf
import Derived.RowKit
import Derived.RowKitTokens
import Derived.LaidLaws
import Derived.LaidHandle
import Derived.Stop.Joined
import Derived.Handed
import Derived.SevenTiedAt
namespace Go.Proofs.YtbfjlhjfpmgplaaDoor.bpduBuilds
open Go.ChangeShapes Go.WideShapes Go.ChangeAt Go.RowKit
open Go.ChangeMaps (open_string shut_string)
set_option linter.unusedVariables false
set_option linter.unusedSimpArgs false
theorem own : ownKnob Tryd.prog.godebug = none := by kernel_rfl
theorem laidOut : laidOutB Tryd.prog = true := by kernel_rfl
theorem field_of {H : Type} {enc : TypeId × Value → H} {Q : Program} {w : World} {base : Nat} {spare : Nat → Bool} {held : Bool} {fuel : Nat} {t : TypeId} {cs : List Value} {x : DataW H × List MemPlace} {fs : Array Field} (ht : Q.underlying t = some (.struct fs)) (h : DataW.trod enc Q w base spare held fuel t cs = some x) (i : Nat) (f : Field) (hf : fs[i]? = some f) :
    ∃ m y, DataW.trod enc Q w base spare held m f.type ((cs.drop f.offset).take (Q.cellsOf f.type)) = some y := by
  obtain ⟨xs, m, _, _, _, hl, hx⟩ := DataW.trod_struct ht h
  have hi : i < xs.length := by rw [hl]; exact (Array.getElem?_eq_some_iff.1 hf).1
  exact ⟨m, _, (hx i f hf).trans (List.getElem?_eq_getElem hi)⟩
theorem arr16 {α : Type} {cs : Array α} (h : cs.size = 16) : ∃ c0 c1 c2 c3 c4 c5 c6 c7 c8 c9 c10 c11 c12 c13 c14 c15, cs = #[c0, c1, c2, c3, c4, c5, c6, c7, c8, c9, c10, c11, c12, c13, c14, c15] := by
  obtain ⟨l⟩ := cs
  match l, h with
  | [c0, c1, c2, c3, c4, c5, c6, c7, c8, c9, c10, c11, c12, c13, c14, c15], _ => exact ⟨c0, c1, c2, c3, c4, c5, c6, c7, c8, c9, c10, c11, c12, c13, c14, c15, rfl⟩
theorem et : Tryd.prog.globalNamed "errors.errorType" = some 0 := by kernel_rfl
theorem rt : (Tryd.prog.cutTypes.find? (·.1 == "internal/reflectlite.rtype")).map (·.2) = some 89 := by kernel_rfl
theorem oneRow : ((List.range 132).filter fun t => Tryd.prog.rowNamed t [101, 114, 114, 111, 114]) = [67] := by kernel_rfl
theorem nTypes : Tryd.prog.types.size = 132 := by kernel_rfl
/-- What the condition gives a walk: the variable's one cell. -/
theorem handle_of_laid {W : World} (h : laidMetH Tryd.prog Rows.bpduBuildsRow.laid W) : W.cell? ⟨0, 0, none⟩ = some (.iface 89 (.agg #[.pointer (some ⟨1, 67, none⟩)])) := by
  have h' : laidMet Tryd.prog [] W ∧ handlesMet Tryd.prog Rows.bpduBuildsRow.laid W := h
  obtain ⟨name, u, ty, e1, e2, e3, e4, e5⟩ := h'.2 _ (List.mem_singleton.2 rfl)
  have en : name = [101, 114, 114, 111, 114] := (Option.some.inj e1).symm
  subst en
  obtain rfl := Option.some.inj (rt.symm.trans e2)
  have hm : ty ∈ (List.range 132).filter fun t => Tryd.prog.rowNamed t [101, 114, 114, 111, 114] := List.mem_filter.2 ⟨List.mem_range.2 (by rw [← nTypes]; exact e3), e4⟩
  rw [oneRow] at hm
  obtain rfl := List.mem_singleton.1 hm
  have hh : typeHandle Tryd.prog 67 = .pointer (some ⟨1, 67, none⟩) := by kernel_rfl
  rw [hh] at e5
  simpa using World.var?_cell et e5 0
/-- A world that meets the condition: the settled one, the variable's cell laid. -/
noncomputable def laidWorld (os : Os) : World :=
  let w0 := World.holding Tryd.prog os ⟨#[], #[], []⟩
  { w0 with heap := w0.heap.modify 0 fun
      | .cells _ t frozen => .cells #[.iface 89 (.agg #[.pointer (some ⟨1, 67, none⟩)])] t frozen
      | o => o }
theorem laidWorld_met (os : Os) (args : Array Value) : laidMetH Tryd.prog Rows.bpduBuildsRow.laid ((laidWorld os).forCall (fun _ _ => 0) ⟨#[], args, []⟩).memory :=
  laidMetH_of_parts (laidMet_nil _ _) (by kernel_rfl)
set_option maxRecDepth 100000 in
theorem lifted (os : Os) (started : os.Started) (H : Type) (enc : TypeId × Value → H) :
    ReturnsInHanded {} Tryd.checked os 3 .any (fun w args => (Rows.bpduBuildsSpec.pre enc Tryd.prog Tryd.f3 [] false w args ∧ laidMetH Tryd.prog Rows.bpduBuildsRow.laid w) ∧ sizedMet enc Tryd.prog Tryd.f3 (OpenSpec.ofChange Rows.bpduBuildsSpec) false w args) (Rows.bpduBuildsSpec.post enc Tryd.prog Tryd.f3 false true false false) := by
  refine returnsInHanded_of_change_and (C := Tryd.checked) (X := fun w _ => laidMetH Tryd.prog Rows.bpduBuildsRow.laid w) (fun _ _ _ hh h => h.of_heap hh) own started (by kernel_rfl) Tryd.func3
    (ChangeSpec.witness_at (enc := enc) (C := Tryd.checked) (os := os) (X := fun w _ => laidMetH Tryd.prog Rows.bpduBuildsRow.laid w) false (laidWorld os) #[.agg #[.int .i64 0, .bool false, .bool false, .bool false, .bool false, .bool false, .bool false, .int .i64 0, .int .u64 0, .int .i64 0, .int .u64 0, .int .i64 0, .int .i64 0, .int .i64 0, .int .i64 0, .int .i64 0]] 8 rfl (by kernel_rfl) (by kernel_rfl) (by kernel_rfl) (by kernel_rfl) (by kernel_rfl) (laidWorld_met os _)) ?_
  intro W base args ds gs before hval0 hW hcnd hsz0 hL0 _
  have hsz : (DataW.weightsEach Tryd.prog (Tryd.f3.params.toList ++ Rows.bpduBuildsSpec.plain.varTypes Tryd.prog) (ds ++ gs)).all (· ≤ reachBytes) = true := hsz0
  have hval : ∀ (j : Nat) t v, Tryd.f3.params[j]? = some t → args[j]? = some v → Value.okWide Tryd.prog W .any base t v := hval0
  have hW' := hW
  obtain ⟨p, q, hA0, hV, rfl, hfz, hnd⟩ := hW
  have hA : DataW.TrodAll enc Tryd.prog W 0 (fun _ => true) true Tryd.f3.params.toList args.toList ds p := hA0
  rw [Tryd.params3] at hA hval hsz
  obtain ⟨v0, vs0, d0, ds0, p0, q0, hargs, rfl, rfl, h0, r0⟩ := trodAll_cons hA
  obtain ⟨rfl, rfl, rfl⟩ := trodAll_nil r0
  obtain rfl : args = #[v0] := by cases args; simp_all
  obtain ⟨rfl, rfl⟩ := trodVars_none hV
  have k0 := h0
  have lt0 : ∀ x ∈ p0, x.block < W.heap.size := by obtain ⟨m, hm⟩ := k0; exact DataW.trod_lt m _ _ _ hm
  obtain ⟨cs0, rfl, hs0⟩ := okWide_struct Tryd.underlying24 (hval 0 24 v0 rfl rfl)
  obtain ⟨c0_0, c0_1, c0_2, c0_3, c0_4, c0_5, c0_6, c0_7, c0_8, c0_9, c0_10, c0_11, c0_12, c0_13, c0_14, c0_15, rfl⟩ := arr16 (hs0.trans (show Tryd.prog.cellsOf 24 = 16 by kernel_rfl))
  obtain ⟨fu0, hf0⟩ := h0
  replace hf0 : DataW.trod enc Tryd.prog W 0 (fun _ => true) true fu0 24 [c0_0, c0_1, c0_2, c0_3, c0_4, c0_5, c0_6, c0_7, c0_8, c0_9, c0_10, c0_11, c0_12, c0_13, c0_14, c0_15] = some (d0, p0) := hf0
  obtain ⟨nq0_0_3, yq0_0_3, q0_0_3⟩ := field_of Tryd.underlying24 hf0 0 _ rfl
  replace q0_0_3 : DataW.trod enc Tryd.prog W 0 (fun _ => true) true nq0_0_3 3 [c0_0] = some yq0_0_3 := by simpa [show Tryd.prog.cellsOf 3 = 1 by kernel_rfl] using q0_0_3
  obtain ⟨a0_0, e0_0, _, w0_0⟩ := DataW.trod_int Tryd.underlying3 q0_0_3
  obtain rfl : c0_0 = .int .i64 a0_0 := by simpa using e0_0
  obtain ⟨nq0_1_4, yq0_1_4, q0_1_4⟩ := field_of Tryd.underlying24 hf0 1 _ rfl
  replace q0_1_4 : DataW.trod enc Tryd.prog W 0 (fun _ => true) true nq0_1_4 4 [c0_1] = some yq0_1_4 := by simpa [show Tryd.prog.cellsOf 4 = 1 by kernel_rfl] using q0_1_4
  obtain ⟨a0_1, e0_1, _⟩ := DataW.trod_bool Tryd.underlying4 q0_1_4
  obtain rfl : c0_1 = .bool a0_1 := by simpa using e0_1
  obtain ⟨nq0_2_4, yq0_2_4, q0_2_4⟩ := field_of Tryd.underlying24 hf0 2 _ rfl
  replace q0_2_4 : DataW.trod enc Tryd.prog W 0 (fun _ => true) true nq0_2_4 4 [c0_2] = some yq0_2_4 := by simpa [show Tryd.prog.cellsOf 4 = 1 by kernel_rfl] using q0_2_4
  obtain ⟨a0_2, e0_2, _⟩ := DataW.trod_bool Tryd.underlying4 q0_2_4
  obtain rfl : c0_2 = .bool a0_2 := by simpa using e0_2
  obtain ⟨nq0_3_4, yq0_3_4, q0_3_4⟩ := field_of Tryd.underlying24 hf0 3 _ rfl
  replace q0_3_4 : DataW.trod enc Tryd.prog W 0 (fun _ => true) true nq0_3_4 4 [c0_3] = some yq0_3_4 := by simpa [show Tryd.prog.cellsOf 4 = 1 by kernel_rfl] using q0_3_4
  obtain ⟨a0_3, e0_3, _⟩ := DataW.trod_bool Tryd.underlying4 q0_3_4
  obtain rfl : c0_3 = .bool a0_3 := by simpa using e0_3
  obtain ⟨nq0_4_4, yq0_4_4, q0_4_4⟩ := field_of Tryd.underlying24 hf0 4 _ rfl
  replace q0_4_4 : DataW.trod enc Tryd.prog W 0 (fun _ => true) true nq0_4_4 4 [c0_4] = some yq0_4_4 := by simpa [show Tryd.prog.cellsOf 4 = 1 by kernel_rfl] using q0_4_4
  obtain ⟨a0_4, e0_4, _⟩ := DataW.trod_bool Tryd.underlying4 q0_4_4
  obtain rfl : c0_4 = .bool a0_4 := by simpa using e0_4
  obtain ⟨nq0_5_4, yq0_5_4, q0_5_4⟩ := field_of Tryd.underlying24 hf0 5 _ rfl
  replace q0_5_4 : DataW.trod enc Tryd.prog W 0 (fun _ => true) true nq0_5_4 4 [c0_5] = some yq0_5_4 := by simpa [show Tryd.prog.cellsOf 4 = 1 by kernel_rfl] using q0_5_4
  obtain ⟨a0_5, e0_5, _⟩ := DataW.trod_bool Tryd.underlying4 q0_5_4
  obtain rfl : c0_5 = .bool a0_5 := by simpa using e0_5
  obtain ⟨nq0_6_4, yq0_6_4, q0_6_4⟩ := field_of Tryd.underlying24 hf0 6 _ rfl
  replace q0_6_4 : DataW.trod enc Tryd.prog W 0 (fun _ => true) true nq0_6_4 4 [c0_6] = some yq0_6_4 := by simpa [show Tryd.prog.cellsOf 4 = 1 by kernel_rfl] using q0_6_4
  obtain ⟨a0_6, e0_6, _⟩ := DataW.trod_bool Tryd.underlying4 q0_6_4
  obtain rfl : c0_6 = .bool a0_6 := by simpa using e0_6
  obtain ⟨nq0_7_3, yq0_7_3, q0_7_3⟩ := field_of Tryd.underlying24 hf0 7 _ rfl
  replace q0_7_3 : DataW.trod enc Tryd.prog W 0 (fun _ => true) true nq0_7_3 3 [c0_7] = some yq0_7_3 := by simpa [show Tryd.prog.cellsOf 3 = 1 by kernel_rfl] using q0_7_3
  obtain ⟨a0_7, e0_7, _, w0_7⟩ := DataW.trod_int Tryd.underlying3 q0_7_3
  obtain rfl : c0_7 = .int .i64 a0_7 := by simpa using e0_7
  obtain ⟨nq0_8_22, yq0_8_22, q0_8_22⟩ := field_of Tryd.underlying24 hf0 8 _ rfl
  replace q0_8_22 : DataW.trod enc Tryd.prog W 0 (fun _ => true) true nq0_8_22 22 [c0_8] = some yq0_8_22 := by simpa [show Tryd.prog.cellsOf 22 = 1 by kernel_rfl] using q0_8_22
  obtain ⟨a0_8, e0_8, _, w0_8⟩ := DataW.trod_int Tryd.underlying22 q0_8_22
  obtain rfl : c0_8 = .int .u64 a0_8 := by simpa using e0_8
  obtain ⟨nq0_9_3, yq0_9_3, q0_9_3⟩ := field_of Tryd.underlying24 hf0 9 _ rfl
  replace q0_9_3 : DataW.trod enc Tryd.prog W 0 (fun _ => true) true nq0_9_3 3 [c0_9] = some yq0_9_3 := by simpa [show Tryd.prog.cellsOf 3 = 1 by kernel_rfl] using q0_9_3
  obtain ⟨a0_9, e0_9, _, w0_9⟩ := DataW.trod_int Tryd.underlying3 q0_9_3
  obtain rfl : c0_9 = .int .i64 a0_9 := by simpa using e0_9
  obtain ⟨nq0_10_22, yq0_10_22, q0_10_22⟩ := field_of Tryd.underlying24 hf0 10 _ rfl
  replace q0_10_22 : DataW.trod enc Tryd.prog W 0 (fun _ => true) true nq0_10_22 22 [c0_10] = some yq0_10_22 := by simpa [show Tryd.prog.cellsOf 22 = 1 by kernel_rfl] using q0_10_22
  obtain ⟨a0_10, e0_10, _, w0_10⟩ := DataW.trod_int Tryd.underlying22 q0_10_22
  obtain rfl : c0_10 = .int .u64 a0_10 := by simpa using e0_10
  obtain ⟨nq0_11_3, yq0_11_3, q0_11_3⟩ := field_of Tryd.underlying24 hf0 11 _ rfl
  replace q0_11_3 : DataW.trod enc Tryd.prog W 0 (fun _ => true) true nq0_11_3 3 [c0_11] = some yq0_11_3 := by simpa [show Tryd.prog.cellsOf 3 = 1 by kernel_rfl] using q0_11_3
  obtain ⟨a0_11, e0_11, _, w0_11⟩ := DataW.trod_int Tryd.underlying3 q0_11_3
  obtain rfl : c0_11 = .int .i64 a0_11 := by simpa using e0_11
  obtain ⟨nq0_12_3, yq0_12_3, q0_12_3⟩ := field_of Tryd.underlying24 hf0 12 _ rfl
  replace q0_12_3 : DataW.trod enc Tryd.prog W 0 (fun _ => true) true nq0_12_3 3 [c0_12] = some yq0_12_3 := by simpa [show Tryd.prog.cellsOf 3 = 1 by kernel_rfl] using q0_12_3
  obtain ⟨a0_12, e0_12, _, w0_12⟩ := DataW.trod_int Tryd.underlying3 q0_12_3
  obtain rfl : c0_12 = .int .i64 a0_12 := by simpa using e0_12
  obtain ⟨nq0_13_3, yq0_13_3, q0_13_3⟩ := field_of Tryd.underlying24 hf0 13 _ rfl
  replace q0_13_3 : DataW.trod enc Tryd.prog W 0 (fun _ => true) true nq0_13_3 3 [c0_13] = some yq0_13_3 := by simpa [show Tryd.prog.cellsOf 3 = 1 by kernel_rfl] using q0_13_3
  obtain ⟨a0_13, e0_13, _, w0_13⟩ := DataW.trod_int Tryd.underlying3 q0_13_3
  obtain rfl : c0_13 = .int .i64 a0_13 := by simpa using e0_13
  obtain ⟨nq0_14_3, yq0_14_3, q0_14_3⟩ := field_of Tryd.underlying24 hf0 14 _ rfl
  replace q0_14_3 : DataW.trod enc Tryd.prog W 0 (fun _ => true) true nq0_14_3 3 [c0_14] = some yq0_14_3 := by simpa [show Tryd.prog.cellsOf 3 = 1 by kernel_rfl] using q0_14_3
  obtain ⟨a0_14, e0_14, _, w0_14⟩ := DataW.trod_int Tryd.underlying3 q0_14_3
  obtain rfl : c0_14 = .int .i64 a0_14 := by simpa using e0_14
  obtain ⟨nq0_15_3, yq0_15_3, q0_15_3⟩ := field_of Tryd.underlying24 hf0 15 _ rfl
  replace q0_15_3 : DataW.trod enc Tryd.prog W 0 (fun _ => true) true nq0_15_3 3 [c0_15] = some yq0_15_3 := by simpa [show Tryd.prog.cellsOf 3 = 1 by kernel_rfl] using q0_15_3
  obtain ⟨a0_15, e0_15, _, w0_15⟩ := DataW.trod_int Tryd.underlying3 q0_15_3
  obtain rfl : c0_15 = .int .i64 a0_15 := by simpa using e0_15
  have hL := handle_of_laid hL0
  clear hA0 hval0 hsz0 hsz
  obtain ⟨k, h⟩ := Pure.BpduBuilds a0_0 a0_1 a0_2 a0_3 a0_4 a0_5 a0_6 a0_7 a0_8 a0_9 a0_10 a0_11 a0_12 a0_13 a0_14 a0_15 w0_0 w0_7 w0_8 w0_9 w0_10 w0_11 w0_12 w0_13 w0_14 w0_15
  refine (P.gangwaylaw09_BpduBuilds.calls k a0_0 a0_1 a0_2 a0_3 a0_4 a0_5 a0_6 a0_7 a0_8 a0_9 a0_10 a0_11 a0_12 a0_13 a0_14 a0_15 true W h).mono ?_
  rintro e W' ⟨rfl, bel0⟩
  have bel : Below W.heap.size W W' := bel0
  exact ⟨_, rfl, _, _, _, [], _, [], hW', trodAll_mk1 (shut_bool Tryd.underlying4 _), (trodAll_cons_mk (Below.trod laidOut (by kernel_rfl) (of_decide_eq_true (by kernel_rfl)) k0 bel lt0) trodAll_mk0), rfl, bel.frame _, fun h => by cases h⟩
theorem over : Rows.bpduBuildsRow.holds Tryd.pinned (OpenSpec.ofChange Rows.bpduBuildsSpec) :=
  OpenClaim.holds_of_wide 3 Tryd.f3 rfl rfl rfl rfl rfl rfl rfl ⟨rfl, rfl, rfl, rfl, rfl⟩ rfl rfl rfl rfl rfl (by kernel_rfl) Tryd.func3 (by kernel_rfl)
    (of_decide_eq_true (by kernel_rfl)) (by unfold Func.isWrapper; first | (rw [if_pos (by decide +kernel)]; kernel_rfl) | (rw [if_neg (by decide +kernel)]; exact ⟨rfl, rfl⟩))
    (fun os started H enc _ => lifted os started H enc)
theorem card : Rows.BpduBuildsCardSaid :=
  Claim7.holds_tied_plain_at .later [] [.handle] true (true, "4bf8cb18284c29c6fb4f7504051a888372762077133e2a5f26c1b1fd45a3ff05") true
    over (fun _ h => by cases h) (by kernel_rfl) (fun _ h => by cases h) bpduBuilds_row_tie rfl ⟨rfl, rfl⟩ (by kernel_rfl) rfl
    (fun f fn hf hfn => by
      obtain rfl : f = 3 := Option.some.inj ((show Tryd.prog.funcNamed "gangway/gangwaylaw09.BpduBuilds" = some 3 by kernel_rfl).symm.trans hf) |>.symm
      obtain rfl : fn = Tryd.f3 := (Option.some.inj (Tryd.func3.symm.trans hfn)).symm
      exact ⟨by kernel_rfl, fun j t ht => by
        rw [Tryd.params3] at ht
        have hj : t ∈ [24] := by
          have := List.mem_of_getElem? (show ([24] : List TypeId)[j]? = some t by simpa using ht)
          exact this
        have hall : ∀ t ∈ ([24] : List TypeId), Tryd.prog.wantsStandIn t = false := by
          intro t ht
          simp only [List.mem_cons, List.not_mem_nil, or_false] at ht
          rcases ht with rfl
          · exact (show Tryd.prog.wantsStandIn 24 = false by kernel_rfl)
        exact hall t hj⟩)
    (by kernel_rfl)
theorem proved : Rows.BpduBuildsCardSaid := card
#print axioms proved
end Go.Proofs.YtbfjlhjfpmgplaaDoor.bpduBuilds
namespace Go.Proofs.YtbfjlhjfpmgplaaDoor
/-- The row, under a short name, for the claim. -/
theorem bpduBuilds_holds : Rows.BpduBuildsCardSaid := bpduBuilds.proved
end Go.Proofs.YtbfjlhjfpmgplaaDoor
