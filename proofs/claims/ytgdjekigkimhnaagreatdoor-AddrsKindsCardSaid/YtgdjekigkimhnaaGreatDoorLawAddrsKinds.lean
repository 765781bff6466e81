/- The row of the law AddrsKinds: for every input the law returns true and each argument reads as it read before (a card: the variable errors.errorType tied to the program's text). Its walk: gangwaylaw02_AddrsKinds.calls; what is left: Pure.AddrsKinds. -/
import Derived.Test.YtgdjekigkimhnaaGreatDoorRows
import Derived.Test.YtgdjekigkimhnaaGreatDoorTie
import Derived.Test.YtgdjekigkimhnaaGreatDoorCards
import Derived.Test.YtgdjekigkimhnaaGreatDoorPx30
import Derived.Test.YtgdjekigkimhnaaGreatDoorPureAddrsKinds
import Derived.WalkKit
import Derived.ProofKit
import Derived.OpenShut
import Derived.ShutString
import Derived.ChangeOld
import Derived.Below
import Derived.SizedLaws
import Derived.Carry
import Derived.ChangeArms
import Derived.ChangeSame
import Derived.ChangeVars
import Derived.JoinedOf
import Derived.RowKit
import Derived.RowKitTokens
import Derived.LaidLaws
import Derived.LaidHandle
import Derived.Stop.Joined
import Derived.Handed
import Derived.SevenTiedAt
import Derived.Lay
import Derived.Test.YtgdjekigkimhnaaGreatDoorLaidRow
namespace Go.Proofs.YtgdjekigkimhnaaGreatDoor.addrsKinds
open Go.ChangeShapes Go.WideShapes Go.ChangeAt Go.RowKit
open Go.ChangeMaps (open_string shut_string)
set_option linter.unusedVariables false
set_option linter.unusedSimpArgs false
theorem own : ownKnob Tryz.prog.godebug = none := by kernel_rfl
theorem laidOut : laidOutB Tryz.prog = true := by kernel_rfl
theorem field_of {H : Type} {enc : TypeId × Value → H} {Q : Program} {w : World} {base : Nat} {spare : Nat → Bool} {held : Bool} {fuel : Nat} {t : TypeId} {cs : List Value} {x : DataW H × List MemPlace} {fs : Array Field} (ht : Q.underlying t = some (.struct fs)) (h : DataW.trod enc Q w base spare held fuel t cs = some x) (i : Nat) (f : Field) (hf : fs[i]? = some f) :
    ∃ m y, DataW.trod enc Q w base spare held m f.type ((cs.drop f.offset).take (Q.cellsOf f.type)) = some y := by
  obtain ⟨xs, m, _, _, _, hl, hx⟩ := DataW.trod_struct ht h
  have hi : i < xs.length := by rw [hl]; exact (Array.getElem?_eq_some_iff.1 hf).1
  exact ⟨m, _, (hx i f hf).trans (List.getElem?_eq_getElem hi)⟩
theorem arr4 {α : Type} {cs : Array α} (h : cs.size = 4) : ∃ c0 c1 c2 c3, cs = #[c0, c1, c2, c3] := by
  obtain ⟨l⟩ := cs
  match l, h with
  | [c0, c1, c2, c3], _ => exact ⟨c0, c1, c2, c3, rfl⟩
set_option maxRecDepth 100000 in
theorem lifted (os : Os) (started : os.Started) (H : Type) (enc : TypeId × Value → H) :
    ReturnsInHanded {} Tryz.checked os 4 .any (fun w args => (Rows.addrsKindsSpec.pre enc Tryz.prog Tryz.f4 [] false w args ∧ laidMetH Tryz.prog Rows.addrsKindsRow.laid w) ∧ sizedMet enc Tryz.prog Tryz.f4 (OpenSpec.ofChange Rows.addrsKindsSpec) false w args) (Rows.addrsKindsSpec.post enc Tryz.prog Tryz.f4 false true false false) := by
  refine P.change_and_shaped (C := Tryz.checked) (X := fun w _ => laidMetH Tryz.prog Rows.addrsKindsRow.laid w) (fun _ _ _ hh h => h.of_heap hh) own started (by kernel_rfl) Tryz.func4
    (ChangeSpec.witness_shaped (enc := enc) (C := Tryz.checked) (os := os) (X := fun w _ => laidMetH Tryz.prog Rows.addrsKindsRow.laid w) false (P.laidWorld os) #[.int .u64 0, .int .u32 0, .agg #[.int .u32 0, .int .i64 0, .int .u32 0, .int .i64 0]] 8 (P.laidWorld_os os)
      (World.shaped_of_ZipB (by kernel_rfl) (by kernel_rfl)) (by kernel_rfl) (by kernel_rfl) (by kernel_rfl) (P.laidWorld_met os _)) ?_
  intro W base args ds gs before hval0 hW hcnd hsz0 hL0 hsh
  have hsz : (DataW.weightsEach Tryz.prog (Tryz.f4.params.toList ++ Rows.addrsKindsSpec.plain.varTypes Tryz.prog) (ds ++ gs)).all (· ≤ reachBytes) = true := hsz0
  have hval : ∀ (j : Nat) t v, Tryz.f4.params[j]? = some t → args[j]? = some v → Value.okWide Tryz.prog W .any base t v := hval0
  have hW' := hW
  obtain ⟨p, q, hA0, hV, rfl, hfz, hnd⟩ := hW
  have hA : DataW.TrodAll enc Tryz.prog W 0 (fun _ => true) true Tryz.f4.params.toList args.toList ds p := hA0
  rw [Tryz.params4] at hA hval hsz
  obtain ⟨v0, vs0, d0, ds0, p0, q0, hargs, rfl, rfl, h0, r0⟩ := trodAll_cons hA
  obtain ⟨v1, vs1, d1, ds1, p1, q1, rfl, rfl, rfl, h1, r1⟩ := trodAll_cons r0
  obtain ⟨v2, vs2, d2, ds2, p2, q2, rfl, rfl, rfl, h2, r2⟩ := trodAll_cons r1
  obtain ⟨rfl, rfl, rfl⟩ := trodAll_nil r2
  obtain rfl : args = #[v0, v1, v2] := by cases args; simp_all
  obtain ⟨rfl, rfl⟩ := trodVars_none hV
  obtain ⟨a0, rfl, rfl, rfl, w0⟩ := open_int Tryz.underlying22 (hval 0 22 v0 rfl rfl) h0
  obtain ⟨a1, rfl, rfl, rfl, w1⟩ := open_int Tryz.underlying23 (hval 1 23 v1 rfl rfl) h1
  have k2 := h2
  have lt2 : ∀ x ∈ p2, x.block < W.heap.size := by obtain ⟨m, hm⟩ := k2; exact DataW.trod_lt m _ _ _ hm
  obtain ⟨cs2, rfl, hs2⟩ := okWide_struct Tryz.underlying36 (hval 2 36 v2 rfl rfl)
  obtain ⟨c2_0, c2_1, c2_2, c2_3, rfl⟩ := arr4 (hs2.trans (show Tryz.prog.cellsOf 36 = 4 by kernel_rfl))
  obtain ⟨fu2, hf2⟩ := h2
  replace hf2 : DataW.trod enc Tryz.prog W 0 (fun _ => true) true fu2 36 [c2_0, c2_1, c2_2, c2_3] = some (d2, p2) := hf2
  obtain ⟨nq2_0_34, yq2_0_34, q2_0_34⟩ := field_of Tryz.underlying36 hf2 0 _ rfl
  replace q2_0_34 : DataW.trod enc Tryz.prog W 0 (fun _ => true) true nq2_0_34 34 [c2_0, c2_1] = some yq2_0_34 := by simpa [show Tryz.prog.cellsOf 34 = 2 by kernel_rfl] using q2_0_34
  obtain ⟨nq2_0_23, yq2_0_23, q2_0_23⟩ := field_of Tryz.underlying34 q2_0_34 0 _ rfl
  replace q2_0_23 : DataW.trod enc Tryz.prog W 0 (fun _ => true) true nq2_0_23 23 [c2_0] = some yq2_0_23 := by simpa [show Tryz.prog.cellsOf 23 = 1 by kernel_rfl] using q2_0_23
  obtain ⟨a2_0, e2_0, _, w2_0⟩ := DataW.trod_int Tryz.underlying23 q2_0_23
  obtain rfl : c2_0 = .int .u32 a2_0 := by simpa using e2_0
  obtain ⟨nq2_1_3, yq2_1_3, q2_1_3⟩ := field_of Tryz.underlying34 q2_0_34 1 _ rfl
  replace q2_1_3 : DataW.trod enc Tryz.prog W 0 (fun _ => true) true nq2_1_3 3 [c2_1] = some yq2_1_3 := by simpa [show Tryz.prog.cellsOf 3 = 1 by kernel_rfl] using q2_1_3
  obtain ⟨a2_1, e2_1, _, w2_1⟩ := DataW.trod_int Tryz.underlying3 q2_1_3
  obtain rfl : c2_1 = .int .i64 a2_1 := by simpa using e2_1
  obtain ⟨nq2_2_34, yq2_2_34, q2_2_34⟩ := field_of Tryz.underlying36 hf2 1 _ rfl
  replace q2_2_34 : DataW.trod enc Tryz.prog W 0 (fun _ => true) true nq2_2_34 34 [c2_2, c2_3] = some yq2_2_34 := by simpa [show Tryz.prog.cellsOf 34 = 2 by kernel_rfl] using q2_2_34
  obtain ⟨nq2_2_23, yq2_2_23, q2_2_23⟩ := field_of Tryz.underlying34 q2_2_34 0 _ rfl
  replace q2_2_23 : DataW.trod enc Tryz.prog W 0 (fun _ => true) true nq2_2_23 23 [c2_2] = some yq2_2_23 := by simpa [show Tryz.prog.cellsOf 23 = 1 by kernel_rfl] using q2_2_23
  obtain ⟨a2_2, e2_2, _, w2_2⟩ := DataW.trod_int Tryz.underlying23 q2_2_23
  obtain rfl : c2_2 = .int .u32 a2_2 := by simpa using e2_2
  obtain ⟨nq2_3_3, yq2_3_3, q2_3_3⟩ := field_of Tryz.underlying34 q2_2_34 1 _ rfl
  replace q2_3_3 : DataW.trod enc Tryz.prog W 0 (fun _ => true) true nq2_3_3 3 [c2_3] = some yq2_3_3 := by simpa [show Tryz.prog.cellsOf 3 = 1 by kernel_rfl] using q2_3_3
  obtain ⟨a2_3, e2_3, _, w2_3⟩ := DataW.trod_int Tryz.underlying3 q2_3_3
  obtain rfl : c2_3 = .int .i64 a2_3 := by simpa using e2_3
  have hL := P.laid_of_row hL0 hsh
  clear hA0 hval0 hsz0 hsz
  obtain ⟨k, h⟩ := Pure.AddrsKinds a0 a1 a2_0 a2_1 a2_2 a2_3 w0 w1 w2_0 w2_1 w2_2 w2_3
  refine (P.gangwaylaw02_AddrsKinds.calls k a0 a1 a2_0 a2_1 a2_2 a2_3 true W hL h).mono ?_
  rintro e W' ⟨rfl, bel0⟩
  have bel : Below W.heap.size W W' := bel0
  exact ⟨_, rfl, _, _, _, [], _, [], hW', trodAll_mk1 (shut_bool Tryz.underlying4 _), (trodAll_cons_mk (shut_int Tryz.underlying22 w0) (trodAll_cons_mk (shut_int Tryz.underlying23 w1) (trodAll_cons_mk (Below.trod laidOut (by kernel_rfl) (of_decide_eq_true (by kernel_rfl)) k2 bel lt2) trodAll_mk0))), rfl, bel.frame _, fun h => by cases h⟩
theorem over : Rows.addrsKindsRow.holds Tryz.pinned (OpenSpec.ofChange Rows.addrsKindsSpec) :=
  OpenClaim.holds_of_wide 4 Tryz.f4 rfl rfl rfl rfl rfl rfl rfl ⟨rfl, rfl, rfl, rfl, rfl⟩ rfl rfl rfl rfl rfl (by kernel_rfl) Tryz.func4 (by kernel_rfl)
    (of_decide_eq_true (by kernel_rfl)) (by unfold Func.isWrapper; first | (rw [if_pos (by decide +kernel)]; kernel_rfl) | (rw [if_neg (by decide +kernel)]; exact ⟨rfl, rfl⟩))
    (fun os started H enc _ => lifted os started H enc)
theorem card : Rows.AddrsKindsCardSaid :=
  Claim7.holds_tied_plain_at .later [] [.data, .data, .data, .data, .handle, .sentinel, .sentinel, .pinned] true (true, "a13a47a9c04e325ab42eb66462a1202cc72c486f59e50aa75988d60b901eb40c") true
    over (fun _ h => by cases h) (by kernel_rfl) (fun _ h => by cases h) addrsKinds_row_tie rfl ⟨rfl, rfl⟩ (by kernel_rfl) rfl
    (fun f fn hf hfn => by
      obtain rfl : f = 4 := Option.some.inj ((show Tryz.prog.funcNamed "gangway/gangwaylaw02.AddrsKinds" = some 4 by kernel_rfl).symm.trans hf) |>.symm
      obtain rfl : fn = Tryz.f4 := (Option.some.inj (Tryz.func4.symm.trans hfn)).symm
      exact ⟨by kernel_rfl, fun j t ht => by
        rw [Tryz.params4] at ht
        have hj : t ∈ [22, 23, 36] := by
          have := List.mem_of_getElem? (show ([22, 23, 36] : List TypeId)[j]? = some t by simpa using ht)
          exact this
        have hall : ∀ t ∈ ([22, 23, 36] : List TypeId), Tryz.prog.wantsStandIn t = false := by
          intro t ht
          simp only [List.mem_cons, List.not_mem_nil, or_false] at ht
          rcases ht with rfl | rfl | rfl
          · exact (show Tryz.prog.wantsStandIn 22 = false by kernel_rfl)
          · exact (show Tryz.prog.wantsStandIn 23 = false by kernel_rfl)
          · exact (show Tryz.prog.wantsStandIn 36 = false by kernel_rfl)
        exact hall t hj⟩)
    (by kernel_rfl)
theorem proved : Rows.AddrsKindsCardSaid := card
#print axioms proved
end Go.Proofs.YtgdjekigkimhnaaGreatDoor.addrsKinds
namespace Go.Proofs.YtgdjekigkimhnaaGreatDoor
/-- The row, under a short name, for the claim. -/
theorem addrsKinds_holds : Rows.AddrsKindsCardSaid := addrsKinds.proved
end Go.Proofs.YtgdjekigkimhnaaGreatDoor
