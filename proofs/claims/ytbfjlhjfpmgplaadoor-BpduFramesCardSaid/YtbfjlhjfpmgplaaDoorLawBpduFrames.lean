/- The row of the law BpduFrames: for every input the law returns true and each argument reads as it read before (a card: the variable errors.errorType tied to the program's text). Its walk: gangwaylaw09_BpduFrames.calls; what is left: Pure.BpduFrames. -/
import Derived.Test.YtbfjlhjfpmgplaaDoorRows
import Derived.Test.YtbfjlhjfpmgplaaDoorTie
import Derived.Test.YtbfjlhjfpmgplaaDoorCards
import Derived.Test.YtbfjlhjfpmgplaaDoorPx23
import Derived.Test.YtbfjlhjfpmgplaaDoorPureBpduFrames
import Derived.WalkKit
import Derived.ProofKit
import Derived.OpenShut
import Derived.ShutString
import Derived.ChangeOld
import Derived.Below
import Derived.SizedLaws
import Derived.Carry
import Derived.ChangeArms
import Derived.ChangeSame
import Derived.ChangeVars
import Derived.JoinedOf
import Derived.RowKit
import Derived.RowKitTokens
import Derived.LaidLaws
import Derived.LaidHandle
import Derived.Stop.Joined
import Derived.Handed
import Derived.SevenTiedAt
namespace Go.Proofs.YtbfjlhjfpmgplaaDoor.bpduFrames
open Go.ChangeShapes Go.WideShapes Go.ChangeAt Go.RowKit
open Go.ChangeMaps (open_string shut_string)
set_option linter.unusedVariables false
set_option linter.unusedSimpArgs false
theorem own : ownKnob Tryd.prog.godebug = none := by kernel_rfl
theorem laidOut : laidOutB Tryd.prog = true := by kernel_rfl
theorem field_of {H : Type} {enc : TypeId × Value → H} {Q : Program} {w : World} {base : Nat} {spare : Nat → Bool} {held : Bool} {fuel : Nat} {t : TypeId} {cs : List Value} {x : DataW H × List MemPlace} {fs : Array Field} (ht : Q.underlying t = some (.struct fs)) (h : DataW.trod enc Q w base spare held fuel t cs = some x) (i : Nat) (f : Field) (hf : fs[i]? = some f) :
    ∃ m y, DataW.trod enc Q w base spare held m f.type ((cs.drop f.offset).take (Q.cellsOf f.type)) = some y := by
  obtain ⟨xs, m, _, _, _, hl, hx⟩ := DataW.trod_struct ht h
  have hi : i < xs.length := by rw [hl]; exact (Array.getElem?_eq_some_iff.1 hf).1
  exact ⟨m, _, (hx i f hf).trans (List.getElem?_eq_getElem hi)⟩
theorem arr8 {α : Type} {cs : Array α} (h : cs.size = 8) : ∃ c0 c1 c2 c3 c4 c5 c6 c7, cs = #[c0, c1, c2, c3, c4, c5, c6, c7] := by
  obtain ⟨l⟩ := cs
  match l, h with
  | [c0, c1, c2, c3, c4, c5, c6, c7], _ => exact ⟨c0, c1, c2, c3, c4, c5, c6, c7, rfl⟩
theorem arr16 {α : Type} {cs : Array α} (h : cs.size = 16) : ∃ c0 c1 c2 c3 c4 c5 c6 c7 c8 c9 c10 c11 c12 c13 c14 c15, cs = #[c0, c1, c2, c3, c4, c5, c6, c7, c8, c9, c10, c11, c12, c13, c14, c15] := by
  obtain ⟨l⟩ := cs
  match l, h with
  | [c0, c1, c2, c3, c4, c5, c6, c7, c8, c9, c10, c11, c12, c13, c14, c15], _ => exact ⟨c0, c1, c2, c3, c4, c5, c6, c7, c8, c9, c10, c11, c12, c13, c14, c15, rfl⟩
theorem et : Tryd.prog.globalNamed "errors.errorType" = some 0 := by kernel_rfl
theorem rt : (Tryd.prog.cutTypes.find? (·.1 == "internal/reflectlite.rtype")).map (·.2) = some 89 := by kernel_rfl
theorem oneRow : ((List.range 132).filter fun t => Tryd.prog.rowNamed t [101, 114, 114, 111, 114]) = [67] := by kernel_rfl
theorem nTypes : Tryd.prog.types.size = 132 := by kernel_rfl
/-- What the condition gives a walk: the variable's one cell. -/
theorem handle_of_laid {W : World} (h : laidMetH Tryd.prog Rows.bpduFramesRow.laid W) : W.cell? ⟨0, 0, none⟩ = some (.iface 89 (.agg #[.pointer (some ⟨1, 67, none⟩)])) := by
  have h' : laidMet Tryd.prog [] W ∧ handlesMet Tryd.prog Rows.bpduFramesRow.laid W := h
  obtain ⟨name, u, ty, e1, e2, e3, e4, e5⟩ := h'.2 _ (List.mem_singleton.2 rfl)
  have en : name = [101, 114, 114, 111, 114] := (Option.some.inj e1).symm
  subst en
  obtain rfl := Option.some.inj (rt.symm.trans e2)
  have hm : ty ∈ (List.range 132).filter fun t => Tryd.prog.rowNamed t [101, 114, 114, 111, 114] := List.mem_filter.2 ⟨List.mem_range.2 (by rw [← nTypes]; exact e3), e4⟩
  rw [oneRow] at hm
  obtain rfl := List.mem_singleton.1 hm
  have hh : typeHandle Tryd.prog 67 = .pointer (some ⟨1, 67, none⟩) := by kernel_rfl
  rw [hh] at e5
  simpa using World.var?_cell et e5 0
/-- A world that meets the condition: the settled one, the variable's cell laid. -/
noncomputable def laidWorld (os : Os) : World :=
  let w0 := World.holding Tryd.prog os ⟨#[], #[], []⟩
  { w0 with heap := w0.heap.modify 0 fun
      | .cells _ t frozen => .cells #[.iface 89 (.agg #[.pointer (some ⟨1, 67, none⟩)])] t frozen
      | o => o }
theorem laidWorld_met (os : Os) (args : Array Value) : laidMetH Tryd.prog Rows.bpduFramesRow.laid ((laidWorld os).forCall (fun _ _ => 0) ⟨#[], args, []⟩).memory :=
  laidMetH_of_parts (laidMet_nil _ _) (by kernel_rfl)
set_option maxRecDepth 100000 in
theorem lifted (os : Os) (started : os.Started) (H : Type) (enc : TypeId × Value → H) :
    ReturnsInHanded {} Tryd.checked os 5 .any (fun w args => (Rows.bpduFramesSpec.pre enc Tryd.prog Tryd.f5 [] false w args ∧ laidMetH Tryd.prog Rows.bpduFramesRow.laid w) ∧ sizedMet enc Tryd.prog Tryd.f5 (OpenSpec.ofChange Rows.bpduFramesSpec) false w args) (Rows.bpduFramesSpec.post enc Tryd.prog Tryd.f5 false true false false) := by
  refine returnsInHanded_of_change_and (C := Tryd.checked) (X := fun w _ => laidMetH Tryd.prog Rows.bpduFramesRow.laid w) (fun _ _ _ hh h => h.of_heap hh) own started (by kernel_rfl) Tryd.func5
    (ChangeSpec.witness_at (enc := enc) (C := Tryd.checked) (os := os) (X := fun w _ => laidMetH Tryd.prog Rows.bpduFramesRow.laid w) false (laidWorld os) #[.int .u64 0, .agg #[.int .i64 0, .bool false, .bool false, .bool false, .bool false, .bool false, .bool false, .int .i64 0, .int .u64 0, .int .i64 0, .int .u64 0, .int .i64 0, .int .i64 0, .int .i64 0, .int .i64 0, .int .i64 0], .agg #[.int .u64 0, .int .u64 0, .bool false, .int .i64 0, .bool false, .int .i64 0, .int .i64 0, .string ByteArray.empty]] 8 rfl (by kernel_rfl) (by kernel_rfl) (by kernel_rfl) (by kernel_rfl) (by kernel_rfl) (laidWorld_met os _)) ?_
  intro W base args ds gs before hval0 hW hcnd hsz0 hL0 _
  have hsz : (DataW.weightsEach Tryd.prog (Tryd.f5.params.toList ++ Rows.bpduFramesSpec.plain.varTypes Tryd.prog) (ds ++ gs)).all (· ≤ reachBytes) = true := hsz0
  have hval : ∀ (j : Nat) t v, Tryd.f5.params[j]? = some t → args[j]? = some v → Value.okWide Tryd.prog W .any base t v := hval0
  have hW' := hW
  obtain ⟨p, q, hA0, hV, rfl, hfz, hnd⟩ := hW
  have hA : DataW.TrodAll enc Tryd.prog W 0 (fun _ => true) true Tryd.f5.params.toList args.toList ds p := hA0
  rw [Tryd.params5] at hA hval hsz
  obtain ⟨v0, vs0, d0, ds0, p0, q0, hargs, rfl, rfl, h0, r0⟩ := trodAll_cons hA
  obtain ⟨v1, vs1, d1, ds1, p1, q1, rfl, rfl, rfl, h1, r1⟩ := trodAll_cons r0
  obtain ⟨v2, vs2, d2, ds2, p2, q2, rfl, rfl, rfl, h2, r2⟩ := trodAll_cons r1
  obtain ⟨rfl, rfl, rfl⟩ := trodAll_nil r2
  obtain rfl : args = #[v0, v1, v2] := by cases args; simp_all
  obtain ⟨rfl, rfl⟩ := trodVars_none hV
  obtain ⟨a0, rfl, rfl, rfl, w0⟩ := open_int Tryd.underlying22 (hval 0 22 v0 rfl rfl) h0
  have k1 := h1
  have lt1 : ∀ x ∈ p1, x.block < W.heap.size := by obtain ⟨m, hm⟩ := k1; exact DataW.trod_lt m _ _ _ hm
  obtain ⟨cs1, rfl, hs1⟩ := okWide_struct Tryd.underlying24 (hval 1 24 v1 rfl rfl)
  obtain ⟨c1_0, c1_1, c1_2, c1_3, c1_4, c1_5, c1_6, c1_7, c1_8, c1_9, c1_10, c1_11, c1_12, c1_13, c1_14, c1_15, rfl⟩ := arr16 (hs1.trans (show Tryd.prog.cellsOf 24 = 16 by kernel_rfl))
  obtain ⟨fu1, hf1⟩ := h1
  replace hf1 : DataW.trod enc Tryd.prog W 0 (fun _ => true) true fu1 24 [c1_0, c1_1, c1_2, c1_3, c1_4, c1_5, c1_6, c1_7, c1_8, c1_9, c1_10, c1_11, c1_12, c1_13, c1_14, c1_15] = some (d1, p1) := hf1
  obtain ⟨nq1_0_3, yq1_0_3, q1_0_3⟩ := field_of Tryd.underlying24 hf1 0 _ rfl
  replace q1_0_3 : DataW.trod enc Tryd.prog W 0 (fun _ => true) true nq1_0_3 3 [c1_0] = some yq1_0_3 := by simpa [show Tryd.prog.cellsOf 3 = 1 by kernel_rfl] using q1_0_3
  obtain ⟨a1_0, e1_0, _, w1_0⟩ := DataW.trod_int Tryd.underlying3 q1_0_3
  obtain rfl : c1_0 = .int .i64 a1_0 := by simpa using e1_0
  obtain ⟨nq1_1_4, yq1_1_4, q1_1_4⟩ := field_of Tryd.underlying24 hf1 1 _ rfl
  replace q1_1_4 : DataW.trod enc Tryd.prog W 0 (fun _ => true) true nq1_1_4 4 [c1_1] = some yq1_1_4 := by simpa [show Tryd.prog.cellsOf 4 = 1 by kernel_rfl] using q1_1_4
  obtain ⟨a1_1, e1_1, _⟩ := DataW.trod_bool Tryd.underlying4 q1_1_4
  obtain rfl : c1_1 = .bool a1_1 := by simpa using e1_1
  obtain ⟨nq1_2_4, yq1_2_4, q1_2_4⟩ := field_of Tryd.underlying24 hf1 2 _ rfl
  replace q1_2_4 : DataW.trod enc Tryd.prog W 0 (fun _ => true) true nq1_2_4 4 [c1_2] = some yq1_2_4 := by simpa [show Tryd.prog.cellsOf 4 = 1 by kernel_rfl] using q1_2_4
  obtain ⟨a1_2, e1_2, _⟩ := DataW.trod_bool Tryd.underlying4 q1_2_4
  obtain rfl : c1_2 = .bool a1_2 := by simpa using e1_2
  obtain ⟨nq1_3_4, yq1_3_4, q1_3_4⟩ := field_of Tryd.underlying24 hf1 3 _ rfl
  replace q1_3_4 : DataW.trod enc Tryd.prog W 0 (fun _ => true) true nq1_3_4 4 [c1_3] = some yq1_3_4 := by simpa [show Tryd.prog.cellsOf 4 = 1 by kernel_rfl] using q1_3_4
  obtain ⟨a1_3, e1_3, _⟩ := DataW.trod_bool Tryd.underlying4 q1_3_4
  obtain rfl : c1_3 = .bool a1_3 := by simpa using e1_3
  obtain ⟨nq1_4_4, yq1_4_4, q1_4_4⟩ := field_of Tryd.underlying24 hf1 4 _ rfl
  replace q1_4_4 : DataW.trod enc Tryd.prog W 0 (fun _ => true) true nq1_4_4 4 [c1_4] = some yq1_4_4 := by simpa [show Tryd.prog.cellsOf 4 = 1 by kernel_rfl] using q1_4_4
  obtain ⟨a1_4, e1_4, _⟩ := DataW.trod_bool Tryd.underlying4 q1_4_4
  obtain rfl : c1_4 = .bool a1_4 := by simpa using e1_4
  obtain ⟨nq1_5_4, yq1_5_4, q1_5_4⟩ := field_of Tryd.underlying24 hf1 5 _ rfl
  replace q1_5_4 : DataW.trod enc Tryd.prog W 0 (fun _ => true) true nq1_5_4 4 [c1_5] = some yq1_5_4 := by simpa [show Tryd.prog.cellsOf 4 = 1 by kernel_rfl] using q1_5_4
  obtain ⟨a1_5, e1_5, _⟩ := DataW.trod_bool Tryd.underlying4 q1_5_4
  obtain rfl : c1_5 = .bool a1_5 := by simpa using e1_5
  obtain ⟨nq1_6_4, yq1_6_4, q1_6_4⟩ := field_of Tryd.underlying24 hf1 6 _ rfl
  replace q1_6_4 : DataW.trod enc Tryd.prog W 0 (fun _ => true) true nq1_6_4 4 [c1_6] = some yq1_6_4 := by simpa [show Tryd.prog.cellsOf 4 = 1 by kernel_rfl] using q1_6_4
  obtain ⟨a1_6, e1_6, _⟩ := DataW.trod_bool Tryd.underlying4 q1_6_4
  obtain rfl : c1_6 = .bool a1_6 := by simpa using e1_6
  obtain ⟨nq1_7_3, yq1_7_3, q1_7_3⟩ := field_of Tryd.underlying24 hf1 7 _ rfl
  replace q1_7_3 : DataW.trod enc Tryd.prog W 0 (fun _ => true) true nq1_7_3 3 [c1_7] = some yq1_7_3 := by simpa [show Tryd.prog.cellsOf 3 = 1 by kernel_rfl] using q1_7_3
  obtain ⟨a1_7, e1_7, _, w1_7⟩ := DataW.trod_int Tryd.underlying3 q1_7_3
  obtain rfl : c1_7 = .int .i64 a1_7 := by simpa using e1_7
  obtain ⟨nq1_8_22, yq1_8_22, q1_8_22⟩ := field_of Tryd.underlying24 hf1 8 _ rfl
  replace q1_8_22 : DataW.trod enc Tryd.prog W 0 (fun _ => true) true nq1_8_22 22 [c1_8] = some yq1_8_22 := by simpa [show Tryd.prog.cellsOf 22 = 1 by kernel_rfl] using q1_8_22
  obtain ⟨a1_8, e1_8, _, w1_8⟩ := DataW.trod_int Tryd.underlying22 q1_8_22
  obtain rfl : c1_8 = .int .u64 a1_8 := by simpa using e1_8
  obtain ⟨nq1_9_3, yq1_9_3, q1_9_3⟩ := field_of Tryd.underlying24 hf1 9 _ rfl
  replace q1_9_3 : DataW.trod enc Tryd.prog W 0 (fun _ => true) true nq1_9_3 3 [c1_9] = some yq1_9_3 := by simpa [show Tryd.prog.cellsOf 3 = 1 by kernel_rfl] using q1_9_3
  obtain ⟨a1_9, e1_9, _, w1_9⟩ := DataW.trod_int Tryd.underlying3 q1_9_3
  obtain rfl : c1_9 = .int .i64 a1_9 := by simpa using e1_9
  obtain ⟨nq1_10_22, yq1_10_22, q1_10_22⟩ := field_of Tryd.underlying24 hf1 10 _ rfl
  replace q1_10_22 : DataW.trod enc Tryd.prog W 0 (fun _ => true) true nq1_10_22 22 [c1_10] = some yq1_10_22 := by simpa [show Tryd.prog.cellsOf 22 = 1 by kernel_rfl] using q1_10_22
  obtain ⟨a1_10, e1_10, _, w1_10⟩ := DataW.trod_int Tryd.underlying22 q1_10_22
  obtain rfl : c1_10 = .int .u64 a1_10 := by simpa using e1_10
  obtain ⟨nq1_11_3, yq1_11_3, q1_11_3⟩ := field_of Tryd.underlying24 hf1 11 _ rfl
  replace q1_11_3 : DataW.trod enc Tryd.prog W 0 (fun _ => true) true nq1_11_3 3 [c1_11] = some yq1_11_3 := by simpa [show Tryd.prog.cellsOf 3 = 1 by kernel_rfl] using q1_11_3
  obtain ⟨a1_11, e1_11, _, w1_11⟩ := DataW.trod_int Tryd.underlying3 q1_11_3
  obtain rfl : c1_11 = .int .i64 a1_11 := by simpa using e1_11
  obtain ⟨nq1_12_3, yq1_12_3, q1_12_3⟩ := field_of Tryd.underlying24 hf1 12 _ rfl
  replace q1_12_3 : DataW.trod enc Tryd.prog W 0 (fun _ => true) true nq1_12_3 3 [c1_12] = some yq1_12_3 := by simpa [show Tryd.prog.cellsOf 3 = 1 by kernel_rfl] using q1_12_3
  obtain ⟨a1_12, e1_12, _, w1_12⟩ := DataW.trod_int Tryd.underlying3 q1_12_3
  obtain rfl : c1_12 = .int .i64 a1_12 := by simpa using e1_12
  obtain ⟨nq1_13_3, yq1_13_3, q1_13_3⟩ := field_of Tryd.underlying24 hf1 13 _ rfl
  replace q1_13_3 : DataW.trod enc Tryd.prog W 0 (fun _ => true) true nq1_13_3 3 [c1_13] = some yq1_13_3 := by simpa [show Tryd.prog.cellsOf 3 = 1 by kernel_rfl] using q1_13_3
  obtain ⟨a1_13, e1_13, _, w1_13⟩ := DataW.trod_int Tryd.underlying3 q1_13_3
  obtain rfl : c1_13 = .int .i64 a1_13 := by simpa using e1_13
  obtain ⟨nq1_14_3, yq1_14_3, q1_14_3⟩ := field_of Tryd.underlying24 hf1 14 _ rfl
  replace q1_14_3 : DataW.trod enc Tryd.prog W 0 (fun _ => true) true nq1_14_3 3 [c1_14] = some yq1_14_3 := by simpa [show Tryd.prog.cellsOf 3 = 1 by kernel_rfl] using q1_14_3
  obtain ⟨a1_14, e1_14, _, w1_14⟩ := DataW.trod_int Tryd.underlying3 q1_14_3
  obtain rfl : c1_14 = .int .i64 a1_14 := by simpa using e1_14
  obtain ⟨nq1_15_3, yq1_15_3, q1_15_3⟩ := field_of Tryd.underlying24 hf1 15 _ rfl
  replace q1_15_3 : DataW.trod enc Tryd.prog W 0 (fun _ => true) true nq1_15_3 3 [c1_15] = some yq1_15_3 := by simpa [show Tryd.prog.cellsOf 3 = 1 by kernel_rfl] using q1_15_3
  obtain ⟨a1_15, e1_15, _, w1_15⟩ := DataW.trod_int Tryd.underlying3 q1_15_3
  obtain rfl : c1_15 = .int .i64 a1_15 := by simpa using e1_15
  have k2 := h2
  have lt2 : ∀ x ∈ p2, x.block < W.heap.size := by obtain ⟨m, hm⟩ := k2; exact DataW.trod_lt m _ _ _ hm
  obtain ⟨cs2, rfl, hs2⟩ := okWide_struct Tryd.underlying37 (hval 2 37 v2 rfl rfl)
  obtain ⟨c2_0, c2_1, c2_2, c2_3, c2_4, c2_5, c2_6, c2_7, rfl⟩ := arr8 (hs2.trans (show Tryd.prog.cellsOf 37 = 8 by kernel_rfl))
  obtain ⟨fu2, hf2⟩ := h2
  replace hf2 : DataW.trod enc Tryd.prog W 0 (fun _ => true) true fu2 37 [c2_0, c2_1, c2_2, c2_3, c2_4, c2_5, c2_6, c2_7] = some (d2, p2) := hf2
  obtain ⟨nq2_0_22, yq2_0_22, q2_0_22⟩ := field_of Tryd.underlying37 hf2 0 _ rfl
  replace q2_0_22 : DataW.trod enc Tryd.prog W 0 (fun _ => true) true nq2_0_22 22 [c2_0] = some yq2_0_22 := by simpa [show Tryd.prog.cellsOf 22 = 1 by kernel_rfl] using q2_0_22
  obtain ⟨a2_0, e2_0, _, w2_0⟩ := DataW.trod_int Tryd.underlying22 q2_0_22
  obtain rfl : c2_0 = .int .u64 a2_0 := by simpa using e2_0
  obtain ⟨nq2_1_22, yq2_1_22, q2_1_22⟩ := field_of Tryd.underlying37 hf2 1 _ rfl
  replace q2_1_22 : DataW.trod enc Tryd.prog W 0 (fun _ => true) true nq2_1_22 22 [c2_1] = some yq2_1_22 := by simpa [show Tryd.prog.cellsOf 22 = 1 by kernel_rfl] using q2_1_22
  obtain ⟨a2_1, e2_1, _, w2_1⟩ := DataW.trod_int Tryd.underlying22 q2_1_22
  obtain rfl : c2_1 = .int .u64 a2_1 := by simpa using e2_1
  obtain ⟨nq2_2_35, yq2_2_35, q2_2_35⟩ := field_of Tryd.underlying37 hf2 2 _ rfl
  replace q2_2_35 : DataW.trod enc Tryd.prog W 0 (fun _ => true) true nq2_2_35 35 [c2_2, c2_3, c2_4, c2_5] = some yq2_2_35 := by simpa [show Tryd.prog.cellsOf 35 = 4 by kernel_rfl] using q2_2_35
  obtain ⟨nq2_2_4, yq2_2_4, q2_2_4⟩ := field_of Tryd.underlying35 q2_2_35 0 _ rfl
  replace q2_2_4 : DataW.trod enc Tryd.prog W 0 (fun _ => true) true nq2_2_4 4 [c2_2] = some yq2_2_4 := by simpa [show Tryd.prog.cellsOf 4 = 1 by kernel_rfl] using q2_2_4
  obtain ⟨a2_2, e2_2, _⟩ := DataW.trod_bool Tryd.underlying4 q2_2_4
  obtain rfl : c2_2 = .bool a2_2 := by simpa using e2_2
  obtain ⟨nq2_3_3, yq2_3_3, q2_3_3⟩ := field_of Tryd.underlying35 q2_2_35 1 _ rfl
  replace q2_3_3 : DataW.trod enc Tryd.prog W 0 (fun _ => true) true nq2_3_3 3 [c2_3] = some yq2_3_3 := by simpa [show Tryd.prog.cellsOf 3 = 1 by kernel_rfl] using q2_3_3
  obtain ⟨a2_3, e2_3, _, w2_3⟩ := DataW.trod_int Tryd.underlying3 q2_3_3
  obtain rfl : c2_3 = .int .i64 a2_3 := by simpa using e2_3
  obtain ⟨nq2_4_4, yq2_4_4, q2_4_4⟩ := field_of Tryd.underlying35 q2_2_35 2 _ rfl
  replace q2_4_4 : DataW.trod enc Tryd.prog W 0 (fun _ => true) true nq2_4_4 4 [c2_4] = some yq2_4_4 := by simpa [show Tryd.prog.cellsOf 4 = 1 by kernel_rfl] using q2_4_4
  obtain ⟨a2_4, e2_4, _⟩ := DataW.trod_bool Tryd.underlying4 q2_4_4
  obtain rfl : c2_4 = .bool a2_4 := by simpa using e2_4
  obtain ⟨nq2_5_3, yq2_5_3, q2_5_3⟩ := field_of Tryd.underlying35 q2_2_35 3 _ rfl
  replace q2_5_3 : DataW.trod enc Tryd.prog W 0 (fun _ => true) true nq2_5_3 3 [c2_5] = some yq2_5_3 := by simpa [show Tryd.prog.cellsOf 3 = 1 by kernel_rfl] using q2_5_3
  obtain ⟨a2_5, e2_5, _, w2_5⟩ := DataW.trod_int Tryd.underlying3 q2_5_3
  obtain rfl : c2_5 = .int .i64 a2_5 := by simpa using e2_5
  obtain ⟨nq2_6_3, yq2_6_3, q2_6_3⟩ := field_of Tryd.underlying37 hf2 3 _ rfl
  replace q2_6_3 : DataW.trod enc Tryd.prog W 0 (fun _ => true) true nq2_6_3 3 [c2_6] = some yq2_6_3 := by simpa [show Tryd.prog.cellsOf 3 = 1 by kernel_rfl] using q2_6_3
  obtain ⟨a2_6, e2_6, _, w2_6⟩ := DataW.trod_int Tryd.underlying3 q2_6_3
  obtain rfl : c2_6 = .int .i64 a2_6 := by simpa using e2_6
  obtain ⟨nq2_7_9, yq2_7_9, q2_7_9⟩ := field_of Tryd.underlying37 hf2 4 _ rfl
  replace q2_7_9 : DataW.trod enc Tryd.prog W 0 (fun _ => true) true nq2_7_9 9 [c2_7] = some yq2_7_9 := by simpa [show Tryd.prog.cellsOf 9 = 1 by kernel_rfl] using q2_7_9
  obtain ⟨a2_7, e2_7, _, w2_7⟩ := DataW.trod_string Tryd.underlying9 q2_7_9
  obtain rfl : c2_7 = .string a2_7 := by simpa using e2_7
  have hL := handle_of_laid hL0
  clear hA0 hval0 hsz0 hsz
  obtain ⟨k, h⟩ := Pure.BpduFrames a0 a1_0 a1_1 a1_2 a1_3 a1_4 a1_5 a1_6 a1_7 a1_8 a1_9 a1_10 a1_11 a1_12 a1_13 a1_14 a1_15 a2_0 a2_1 a2_2 a2_3 a2_4 a2_5 a2_6 a2_7 w0 w1_0 w1_7 w1_8 w1_9 w1_10 w1_11 w1_12 w1_13 w1_14 w1_15 w2_0 w2_1 w2_3 w2_5 w2_6 w2_7
  refine (P.gangwaylaw09_BpduFrames.calls k a0 a1_0 a1_1 a1_2 a1_3 a1_4 a1_5 a1_6 a1_7 a1_8 a1_9 a1_10 a1_11 a1_12 a1_13 a1_14 a1_15 a2_0 a2_1 a2_2 a2_3 a2_4 a2_5 a2_6 a2_7 true W h).mono ?_
  rintro e W' ⟨rfl, bel0⟩
  have bel : Below W.heap.size W W' := bel0
  exact ⟨_, rfl, _, _, _, [], _, [], hW', trodAll_mk1 (shut_bool Tryd.underlying4 _), (trodAll_cons_mk (shut_int Tryd.underlying22 w0) (trodAll_cons_mk (Below.trod laidOut (by kernel_rfl) (of_decide_eq_true (by kernel_rfl)) k1 bel lt1) (trodAll_cons_mk (Below.trod laidOut (by kernel_rfl) (of_decide_eq_true (by kernel_rfl)) k2 bel lt2) trodAll_mk0))), rfl, bel.frame _, fun h => by cases h⟩
theorem over : Rows.bpduFramesRow.holds Tryd.pinned (OpenSpec.ofChange Rows.bpduFramesSpec) :=
  OpenClaim.holds_of_wide 5 Tryd.f5 rfl rfl rfl rfl rfl rfl rfl ⟨rfl, rfl, rfl, rfl, rfl⟩ rfl rfl rfl rfl rfl (by kernel_rfl) Tryd.func5 (by kernel_rfl)
    (of_decide_eq_true (by kernel_rfl)) (by unfold Func.isWrapper; first | (rw [if_pos (by decide +kernel)]; kernel_rfl) | (rw [if_neg (by decide +kernel)]; exact ⟨rfl, rfl⟩))
    (fun os started H enc _ => lifted os started H enc)
theorem card : Rows.BpduFramesCardSaid :=
  Claim7.holds_tied_plain_at .later [] [.handle] true (true, "4bf8cb18284c29c6fb4f7504051a888372762077133e2a5f26c1b1fd45a3ff05") true
    over (fun _ h => by cases h) (by kernel_rfl) (fun _ h => by cases h) bpduFrames_row_tie rfl ⟨rfl, rfl⟩ (by kernel_rfl) rfl
    (fun f fn hf hfn => by
      obtain rfl : f = 5 := Option.some.inj ((show Tryd.prog.funcNamed "gangway/gangwaylaw09.BpduFrames" = some 5 by kernel_rfl).symm.trans hf) |>.symm
      obtain rfl : fn = Tryd.f5 := (Option.some.inj (Tryd.func5.symm.trans hfn)).symm
      exact ⟨by kernel_rfl, fun j t ht => by
        rw [Tryd.params5] at ht
        have hj : t ∈ [22, 24, 37] := by
          have := List.mem_of_getElem? (show ([22, 24, 37] : List TypeId)[j]? = some t by simpa using ht)
          exact this
        have hall : ∀ t ∈ ([22, 24, 37] : List TypeId), Tryd.prog.wantsStandIn t = false := by
          intro t ht
          simp only [List.mem_cons, List.not_mem_nil, or_false] at ht
          rcases ht with rfl | rfl | rfl
          · exact (show Tryd.prog.wantsStandIn 22 = false by kernel_rfl)
          · exact (show Tryd.prog.wantsStandIn 24 = false by kernel_rfl)
          · exact (show Tryd.prog.wantsStandIn 37 = false by kernel_rfl)
        exact hall t hj⟩)
    (by kernel_rfl)
theorem proved : Rows.BpduFramesCardSaid := card
#print axioms proved
end Go.Proofs.YtbfjlhjfpmgplaaDoor.bpduFrames
namespace Go.Proofs.YtbfjlhjfpmgplaaDoor
/-- The row, under a short name, for the claim. -/
theorem bpduFrames_holds : Rows.BpduFramesCardSaid := bpduFrames.proved
end Go.Proofs.YtbfjlhjfpmgplaaDoor
