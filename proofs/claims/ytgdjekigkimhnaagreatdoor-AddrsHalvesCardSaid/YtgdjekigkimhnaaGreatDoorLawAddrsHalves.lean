/- The row of the law AddrsHalves: for every input the law returns true and each argument reads as it read before (a card: the variable errors.errorType tied to the program's text). Its walk: gangwaylaw02_AddrsHalves.calls; what is left: Pure.AddrsHalves. -/
import Derived.Test.YtgdjekigkimhnaaGreatDoorRows
import Derived.Test.YtgdjekigkimhnaaGreatDoorTie
import Derived.Test.YtgdjekigkimhnaaGreatDoorCards
import Derived.Test.YtgdjekigkimhnaaGreatDoorPx33
import Derived.Test.YtgdjekigkimhnaaGreatDoorPureAddrsHalves
import Derived.WalkKit
import Derived.ProofKit
import Derived.OpenShut
import Derived.ShutString
import Derived.ChangeOld
import Derived.Below
import Derived.SizedLaws
import Derived.Carry
import Derived.ChangeArms
import Derived.ChangeSame
import Derived.ChangeVars
import Derived.JoinedOf
import Derived.RowKit
import Derived.RowKitTokens
import Derived.LaidLaws
import Derived.LaidHandle
import Derived.Stop.Joined
import Derived.Handed
import Derived.SevenTiedAt
import Derived.Lay
import Derived.Test.YtgdjekigkimhnaaGreatDoorLaidRow
namespace Go.Proofs.YtgdjekigkimhnaaGreatDoor.addrsHalves
open Go.ChangeShapes Go.WideShapes Go.ChangeAt Go.RowKit
open Go.ChangeMaps (open_string shut_string)
set_option linter.unusedVariables false
set_option linter.unusedSimpArgs false
theorem own : ownKnob Tryz.prog.godebug = none := by kernel_rfl
theorem laidOut : laidOutB Tryz.prog = true := by kernel_rfl
theorem field_of {H : Type} {enc : TypeId × Value → H} {Q : Program} {w : World} {base : Nat} {spare : Nat → Bool} {held : Bool} {fuel : Nat} {t : TypeId} {cs : List Value} {x : DataW H × List MemPlace} {fs : Array Field} (ht : Q.underlying t = some (.struct fs)) (h : DataW.trod enc Q w base spare held fuel t cs = some x) (i : Nat) (f : Field) (hf : fs[i]? = some f) :
    ∃ m y, DataW.trod enc Q w base spare held m f.type ((cs.drop f.offset).take (Q.cellsOf f.type)) = some y := by
  obtain ⟨xs, m, _, _, _, hl, hx⟩ := DataW.trod_struct ht h
  have hi : i < xs.length := by rw [hl]; exact (Array.getElem?_eq_some_iff.1 hf).1
  exact ⟨m, _, (hx i f hf).trans (List.getElem?_eq_getElem hi)⟩
theorem arr2 {α : Type} {cs : Array α} (h : cs.size = 2) : ∃ c0 c1, cs = #[c0, c1] := by
  obtain ⟨l⟩ := cs
  match l, h with
  | [c0, c1], _ => exact ⟨c0, c1, rfl⟩
set_option maxRecDepth 100000 in
theorem lifted (os : Os) (started : os.Started) (H : Type) (enc : TypeId × Value → H) :
    ReturnsInHanded {} Tryz.checked os 7 .any (fun w args => (Rows.addrsHalvesSpec.pre enc Tryz.prog Tryz.f7 [] false w args ∧ laidMetH Tryz.prog Rows.addrsHalvesRow.laid w) ∧ sizedMet enc Tryz.prog Tryz.f7 (OpenSpec.ofChange Rows.addrsHalvesSpec) false w args) (Rows.addrsHalvesSpec.post enc Tryz.prog Tryz.f7 false true false false) := by
  refine P.change_and_shaped (C := Tryz.checked) (X := fun w _ => laidMetH Tryz.prog Rows.addrsHalvesRow.laid w) (fun _ _ _ hh h => h.of_heap hh) own started (by kernel_rfl) Tryz.func7
    (ChangeSpec.witness_shaped (enc := enc) (C := Tryz.checked) (os := os) (X := fun w _ => laidMetH Tryz.prog Rows.addrsHalvesRow.laid w) false (P.laidWorld os) #[.agg #[.int .u32 0, .int .i64 0], .int .u32 0] 8 (P.laidWorld_os os)
      (World.shaped_of_ZipB (by kernel_rfl) (by kernel_rfl)) (by kernel_rfl) (by kernel_rfl) (by kernel_rfl) (P.laidWorld_met os _)) ?_
  intro W base args ds gs before hval0 hW hcnd hsz0 hL0 hsh
  have hsz : (DataW.weightsEach Tryz.prog (Tryz.f7.params.toList ++ Rows.addrsHalvesSpec.plain.varTypes Tryz.prog) (ds ++ gs)).all (· ≤ reachBytes) = true := hsz0
  have hval : ∀ (j : Nat) t v, Tryz.f7.params[j]? = some t → args[j]? = some v → Value.okWide Tryz.prog W .any base t v := hval0
  have hW' := hW
  obtain ⟨p, q, hA0, hV, rfl, hfz, hnd⟩ := hW
  have hA : DataW.TrodAll enc Tryz.prog W 0 (fun _ => true) true Tryz.f7.params.toList args.toList ds p := hA0
  rw [Tryz.params7] at hA hval hsz
  obtain ⟨v0, vs0, d0, ds0, p0, q0, hargs, rfl, rfl, h0, r0⟩ := trodAll_cons hA
  obtain ⟨v1, vs1, d1, ds1, p1, q1, rfl, rfl, rfl, h1, r1⟩ := trodAll_cons r0
  obtain ⟨rfl, rfl, rfl⟩ := trodAll_nil r1
  obtain rfl : args = #[v0, v1] := by cases args; simp_all
  obtain ⟨rfl, rfl⟩ := trodVars_none hV
  have k0 := h0
  have lt0 : ∀ x ∈ p0, x.block < W.heap.size := by obtain ⟨m, hm⟩ := k0; exact DataW.trod_lt m _ _ _ hm
  obtain ⟨cs0, rfl, hs0⟩ := okWide_struct Tryz.underlying34 (hval 0 34 v0 rfl rfl)
  obtain ⟨c0_0, c0_1, rfl⟩ := arr2 (hs0.trans (show Tryz.prog.cellsOf 34 = 2 by kernel_rfl))
  obtain ⟨fu0, hf0⟩ := h0
  replace hf0 : DataW.trod enc Tryz.prog W 0 (fun _ => true) true fu0 34 [c0_0, c0_1] = some (d0, p0) := hf0
  obtain ⟨nq0_0_23, yq0_0_23, q0_0_23⟩ := field_of Tryz.underlying34 hf0 0 _ rfl
  replace q0_0_23 : DataW.trod enc Tryz.prog W 0 (fun _ => true) true nq0_0_23 23 [c0_0] = some yq0_0_23 := by simpa [show Tryz.prog.cellsOf 23 = 1 by kernel_rfl] using q0_0_23
  obtain ⟨a0_0, e0_0, _, w0_0⟩ := DataW.trod_int Tryz.underlying23 q0_0_23
  obtain rfl : c0_0 = .int .u32 a0_0 := by simpa using e0_0
  obtain ⟨nq0_1_3, yq0_1_3, q0_1_3⟩ := field_of Tryz.underlying34 hf0 1 _ rfl
  replace q0_1_3 : DataW.trod enc Tryz.prog W 0 (fun _ => true) true nq0_1_3 3 [c0_1] = some yq0_1_3 := by simpa [show Tryz.prog.cellsOf 3 = 1 by kernel_rfl] using q0_1_3
  obtain ⟨a0_1, e0_1, _, w0_1⟩ := DataW.trod_int Tryz.underlying3 q0_1_3
  obtain rfl : c0_1 = .int .i64 a0_1 := by simpa using e0_1
  obtain ⟨a1, rfl, rfl, rfl, w1⟩ := open_int Tryz.underlying23 (hval 1 23 v1 rfl rfl) h1
  have hL := P.laid_of_row hL0 hsh
  clear hA0 hval0 hsz0 hsz
  obtain ⟨k, h⟩ := Pure.AddrsHalves a0_0 a0_1 a1 w0_0 w0_1 w1
  refine (P.gangwaylaw02_AddrsHalves.calls k a0_0 a0_1 a1 true W hL h).mono ?_
  rintro e W' ⟨rfl, bel0⟩
  have bel : Below W.heap.size W W' := bel0
  exact ⟨_, rfl, _, _, _, [], _, [], hW', trodAll_mk1 (shut_bool Tryz.underlying4 _), (trodAll_cons_mk (Below.trod laidOut (by kernel_rfl) (of_decide_eq_true (by kernel_rfl)) k0 bel lt0) (trodAll_cons_mk (shut_int Tryz.underlying23 w1) trodAll_mk0)), rfl, bel.frame _, fun h => by cases h⟩
theorem over : Rows.addrsHalvesRow.holds Tryz.pinned (OpenSpec.ofChange Rows.addrsHalvesSpec) :=
  OpenClaim.holds_of_wide 7 Tryz.f7 rfl rfl rfl rfl rfl rfl rfl ⟨rfl, rfl, rfl, rfl, rfl⟩ rfl rfl rfl rfl rfl (by kernel_rfl) Tryz.func7 (by kernel_rfl)
    (of_decide_eq_true (by kernel_rfl)) (by unfold Func.isWrapper; first | (rw [if_pos (by decide +kernel)]; kernel_rfl) | (rw [if_neg (by decide +kernel)]; exact ⟨rfl, rfl⟩))
    (fun os started H enc _ => lifted os started H enc)
theorem card : Rows.AddrsHalvesCardSaid :=
  Claim7.holds_tied_plain_at .later [] [.data, .data, .data, .data, .handle, .sentinel, .sentinel, .pinned] true (true, "a13a47a9c04e325ab42eb66462a1202cc72c486f59e50aa75988d60b901eb40c") true
    over (fun _ h => by cases h) (by kernel_rfl) (fun _ h => by cases h) addrsHalves_row_tie rfl ⟨rfl, rfl⟩ (by kernel_rfl) rfl
    (fun f fn hf hfn => by
      obtain rfl : f = 7 := Option.some.inj ((show Tryz.prog.funcNamed "gangway/gangwaylaw02.AddrsHalves" = some 7 by kernel_rfl).symm.trans hf) |>.symm
      obtain rfl : fn = Tryz.f7 := (Option.some.inj (Tryz.func7.symm.trans hfn)).symm
      exact ⟨by kernel_rfl, fun j t ht => by
        rw [Tryz.params7] at ht
        have hj : t ∈ [34, 23] := by
          have := List.mem_of_getElem? (show ([34, 23] : List TypeId)[j]? = some t by simpa using ht)
          exact this
        have hall : ∀ t ∈ ([34, 23] : List TypeId), Tryz.prog.wantsStandIn t = false := by
          intro t ht
          simp only [List.mem_cons, List.not_mem_nil, or_false] at ht
          rcases ht with rfl | rfl
          · exact (show Tryz.prog.wantsStandIn 34 = false by kernel_rfl)
          · exact (show Tryz.prog.wantsStandIn 23 = false by kernel_rfl)
        exact hall t hj⟩)
    (by kernel_rfl)
theorem proved : Rows.AddrsHalvesCardSaid := card
#print axioms proved
end Go.Proofs.YtgdjekigkimhnaaGreatDoor.addrsHalves
namespace Go.Proofs.YtgdjekigkimhnaaGreatDoor
/-- The row, under a short name, for the claim. -/
theorem addrsHalves_holds : Rows.AddrsHalvesCardSaid := addrsHalves.proved
end Go.Proofs.YtgdjekigkimhnaaGreatDoor
