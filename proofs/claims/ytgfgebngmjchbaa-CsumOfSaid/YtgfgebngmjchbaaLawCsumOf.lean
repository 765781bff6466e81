/- The row of the law CsumOf: for every input the law returns true and each argument reads as it read before. Its walk: gangwaylaw03_CsumOf.calls; what is left: Pure.CsumOf. -/
import Derived.Test.YtgfgebngmjchbaaRows
import Derived.Test.YtgfgebngmjchbaaPx8
import Derived.Test.YtgfgebngmjchbaaPureCsumOf
import Derived.WalkKit
import Derived.ProofKit
import Derived.OpenShut
import Derived.ShutString
import Derived.ChangeOld
import Derived.Below
import Derived.SizedLaws
import Derived.Carry
import Derived.ChangeArms
namespace Go.Proofs.Ytgfgebngmjchbaa.csumOf
open Go.ChangeShapes Go.WideShapes Go.ChangeAt Go.RowKit
open Go.ChangeMaps (open_string shut_string)
set_option linter.unusedVariables false
set_option linter.unusedSimpArgs false
theorem own : ownKnob Try.prog.godebug = none := by kernel_rfl
theorem laidOut : laidOutB Try.prog = true := by kernel_rfl
theorem field_of {H : Type} {enc : TypeId × Value → H} {Q : Program} {w : World} {base : Nat} {spare : Nat → Bool} {held : Bool} {fuel : Nat} {t : TypeId} {cs : List Value} {x : DataW H × List MemPlace} {fs : Array Field} (ht : Q.underlying t = some (.struct fs)) (h : DataW.trod enc Q w base spare held fuel t cs = some x) (i : Nat) (f : Field) (hf : fs[i]? = some f) :
    ∃ m y, DataW.trod enc Q w base spare held m f.type ((cs.drop f.offset).take (Q.cellsOf f.type)) = some y := by
  obtain ⟨xs, m, _, _, _, hl, hx⟩ := DataW.trod_struct ht h
  have hi : i < xs.length := by rw [hl]; exact (Array.getElem?_eq_some_iff.1 hf).1
  exact ⟨m, _, (hx i f hf).trans (List.getElem?_eq_getElem hi)⟩
theorem arr3 {α : Type} {cs : Array α} (h : cs.size = 3) : ∃ c0 c1 c2, cs = #[c0, c1, c2] := by
  obtain ⟨l⟩ := cs
  match l, h with
  | [c0, c1, c2], _ => exact ⟨c0, c1, c2, rfl⟩
set_option maxRecDepth 100000 in
theorem lifted (os : Os) (started : os.Started) (H : Type) (enc : TypeId × Value → H) :
    ReturnsInHanded {} Try.checked os 3 .any (Rows.csumOfSpec.pre6 enc Try.prog Try.f3 Rows.csumOfRow.domain false) (Rows.csumOfSpec.post enc Try.prog Try.f3 false true false false) := by
  refine returnsInHanded_of_change_sized (C := Try.checked) own started (by kernel_rfl) Try.func3
    (ChangeSpec.witness6 (enc := enc) (C := Try.checked) false ⟨#[], #[.agg #[.string ByteArray.empty, .string ByteArray.empty, .string ByteArray.empty]], []⟩ 8 (by kernel_rfl) (by kernel_rfl) (by kernel_rfl) (by kernel_rfl)) ?_
  intro W base args ds gs before hval0 hW hcnd hsz0 _
  have hsz : (DataW.weightsEach Try.prog (Try.f3.params.toList ++ Rows.csumOfSpec.plain.varTypes Try.prog) (ds ++ gs)).all (· ≤ reachBytes) = true := hsz0
  have hval : ∀ (j : Nat) t v, Try.f3.params[j]? = some t → args[j]? = some v → Value.okWide Try.prog W .any base t v := hval0
  have hW' := hW
  obtain ⟨p, q, hA0, hV, rfl, hfz, hnd⟩ := hW
  have hA : DataW.TrodAll enc Try.prog W 0 (fun _ => true) true Try.f3.params.toList args.toList ds p := hA0
  rw [Try.params3] at hA hval hsz
  obtain ⟨v0, vs0, d0, ds0, p0, q0, hargs, rfl, rfl, h0, r0⟩ := trodAll_cons hA
  obtain ⟨rfl, rfl, rfl⟩ := trodAll_nil r0
  obtain rfl : args = #[v0] := by cases args; simp_all
  obtain ⟨rfl, rfl⟩ := trodVars_none hV
  have k0 := h0
  have lt0 : ∀ x ∈ p0, x.block < W.heap.size := by obtain ⟨m, hm⟩ := k0; exact DataW.trod_lt m _ _ _ hm
  obtain ⟨cs0, rfl, hs0⟩ := okWide_struct Try.underlying23 (hval 0 23 v0 rfl rfl)
  obtain ⟨c0_0, c0_1, c0_2, rfl⟩ := arr3 (hs0.trans (show Try.prog.cellsOf 23 = 3 by kernel_rfl))
  obtain ⟨fu0, hf0⟩ := h0
  replace hf0 : DataW.trod enc Try.prog W 0 (fun _ => true) true fu0 23 [c0_0, c0_1, c0_2] = some (d0, p0) := hf0
  obtain ⟨nq0_0_9, yq0_0_9, q0_0_9⟩ := field_of Try.underlying23 hf0 0 _ rfl
  replace q0_0_9 : DataW.trod enc Try.prog W 0 (fun _ => true) true nq0_0_9 9 [c0_0] = some yq0_0_9 := by simpa [show Try.prog.cellsOf 9 = 1 by kernel_rfl] using q0_0_9
  obtain ⟨a0_0, e0_0, _, w0_0⟩ := DataW.trod_string Try.underlying9 q0_0_9
  obtain rfl : c0_0 = .string a0_0 := by simpa using e0_0
  obtain ⟨nq0_1_9, yq0_1_9, q0_1_9⟩ := field_of Try.underlying23 hf0 1 _ rfl
  replace q0_1_9 : DataW.trod enc Try.prog W 0 (fun _ => true) true nq0_1_9 9 [c0_1] = some yq0_1_9 := by simpa [show Try.prog.cellsOf 9 = 1 by kernel_rfl] using q0_1_9
  obtain ⟨a0_1, e0_1, _, w0_1⟩ := DataW.trod_string Try.underlying9 q0_1_9
  obtain rfl : c0_1 = .string a0_1 := by simpa using e0_1
  obtain ⟨nq0_2_9, yq0_2_9, q0_2_9⟩ := field_of Try.underlying23 hf0 2 _ rfl
  replace q0_2_9 : DataW.trod enc Try.prog W 0 (fun _ => true) true nq0_2_9 9 [c0_2] = some yq0_2_9 := by simpa [show Try.prog.cellsOf 9 = 1 by kernel_rfl] using q0_2_9
  obtain ⟨a0_2, e0_2, _, w0_2⟩ := DataW.trod_string Try.underlying9 q0_2_9
  obtain rfl : c0_2 = .string a0_2 := by simpa using e0_2
  clear hA0 hval0 hsz0 hsz
  obtain ⟨k, h⟩ := Pure.CsumOf a0_0 a0_1 a0_2 w0_0 w0_1 w0_2
  refine (P.gangwaylaw03_CsumOf.calls k a0_0 a0_1 a0_2 true W h).mono ?_
  rintro e W' ⟨rfl, bel0⟩
  have bel : Below W.heap.size W W' := bel0
  exact ⟨_, rfl, _, _, _, [], _, [], hW', trodAll_mk1 (shut_bool Try.underlying4 _), (trodAll_cons_mk (Below.trod laidOut (by kernel_rfl) (of_decide_eq_true (by kernel_rfl)) k0 bel lt0) trodAll_mk0), rfl, bel.frame _, fun h => by cases h⟩
theorem over : Rows.csumOfRow.holds Try.pinned (OpenSpec.ofChange Rows.csumOfSpec) :=
  OpenClaim.holds_of_wide 3 Try.f3 rfl rfl rfl rfl rfl rfl rfl ⟨rfl, rfl, rfl, rfl, rfl⟩ rfl rfl rfl rfl rfl (by kernel_rfl) Try.func3 (by kernel_rfl)
    (of_decide_eq_true (by kernel_rfl)) (by unfold Func.isWrapper; first | (rw [if_pos (by decide +kernel)]; kernel_rfl) | (rw [if_neg (by decide +kernel)]; exact ⟨rfl, rfl⟩))
    (fun os started H enc _ => lifted os started H enc)
theorem proved : Rows.CsumOfSaid := over
#print axioms proved
end Go.Proofs.Ytgfgebngmjchbaa.csumOf
namespace Go.Proofs.Ytgfgebngmjchbaa
/-- The row, under a short name, for the claim. -/
theorem csumOf_holds : Rows.CsumOfSaid := csumOf.proved
end Go.Proofs.Ytgfgebngmjchbaa
