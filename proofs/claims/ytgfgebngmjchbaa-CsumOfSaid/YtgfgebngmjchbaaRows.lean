/-
  No cell of these rows narrows 'for every input' (looked for: loops, veiled, ifaces, maps, wideKeys, modest, calm, conditions, laid).
  DERIVED. THE GIVEN ROWS OF THIS SEAT. 7 by the template 'for every input the law returns true; each argument reads behind the call as it read before'; 0 by the template 'total and deterministic' (their statements: YtgfgebngmjchbaaTotals.lean).
  GIVEN WITH THE SEED: the statements are not yours to turn. If you find one false, say at which input.
  Laid BY PROGRAM, IN A SANDBOX (cutbox-rows.mjs): the forced cells as the released guide's own fill.sh prints them over the translation 6b0c6669280f22cb… (all of the seat's roots in one cut). By AI agents, Wed Nov 11 2026. No macro, syntax, notation, axiom, sorry.
-/
import Derived.Test.YtgfgebngmjchbaaChecked
import GoSem.Claim
import GoSem.ClaimJoined
import GoSem.ClaimMapViews
import Derived.JoinedTies
import Derived.KernelRfl
namespace Go.Proofs.Ytgfgebngmjchbaa
/- THE CELL 'sum', in the pinned program and in every row, IS THE sha256 OF THE DUMP (.gsa) THAT YtgfgebngmjchbaaProg.lean LOADS. Nothing in Lean hashes anything: it is a label: what it is worth is what the hold of that sum in a sandbox is worth. -/
noncomputable def Try.pinned : Pinned := { name := "ytgfgebngmjchbaa", sum := "6b0c6669280f22cb795bcfef29922321aa54ffcfce21e4ac11eec9793768a7c6", checked := Try.checked }
namespace Rows
def none {H : Type} : Left H := { results := [], args := [] }

/-- 'gangwaylaw03.CsumOf': WHATEVER THE INPUT: true; the input reads as it did. -/
def csumOfSpec : ChangeSpec := { name := "csumOf", fn := fun _ => fun
  | [d] => { results := [.lit (.bool true)], args := [d] }
  | _ => none }
def csumOfRow : OpenClaim := { program := "ytgfgebngmjchbaa", sum := "6b0c6669280f22cb795bcfef29922321aa54ffcfce21e4ac11eec9793768a7c6", func := "gangway/gangwaylaw03.CsumOf", spec := "csumOf", inPlace := ["internal/abi.NoEscape", "internal/bytealg.MakeNoZero"], apart := false }
def CsumOfSaid : Prop := csumOfRow.holds Try.pinned (OpenSpec.ofChange csumOfSpec)

/-- ITS FALSE NEIGHBOUR: 'it returns false'. Refute it at one input. -/
def csumOfWrong : ChangeSpec := { name := "csumOf", fn := fun _ => fun
  | [d] => { results := [.lit (.bool false)], args := [d] }
  | _ => none }
def CsumOfWrongFalsely : Prop := csumOfRow.holds Try.pinned (OpenSpec.ofChange csumOfWrong)

/-- 'gangwaylaw03.CsumPatch': WHATEVER THE INPUT: true; the input reads as it did. -/
def csumPatchSpec : ChangeSpec := { name := "csumPatch", fn := fun _ => fun
  | [d1, d2, d3] => { results := [.lit (.bool true)], args := [d1, d2, d3] }
  | _ => none }
def csumPatchRow : OpenClaim := { program := "ytgfgebngmjchbaa", sum := "6b0c6669280f22cb795bcfef29922321aa54ffcfce21e4ac11eec9793768a7c6", func := "gangway/gangwaylaw03.CsumPatch", spec := "csumPatch", inPlace := ["internal/abi.NoEscape", "internal/bytealg.MakeNoZero"], apart := false }
def CsumPatchSaid : Prop := csumPatchRow.holds Try.pinned (OpenSpec.ofChange csumPatchSpec)

/-- ITS FALSE NEIGHBOUR: 'it returns false'. Refute it at one input. -/
def csumPatchWrong : ChangeSpec := { name := "csumPatch", fn := fun _ => fun
  | [d1, d2, d3] => { results := [.lit (.bool false)], args := [d1, d2, d3] }
  | _ => none }
def CsumPatchWrongFalsely : Prop := csumPatchRow.holds Try.pinned (OpenSpec.ofChange csumPatchWrong)

/-- 'gangwaylaw03.CsumSeals': WHATEVER THE INPUT: true; the input reads as it did. -/
def csumSealsSpec : ChangeSpec := { name := "csumSeals", fn := fun _ => fun
  | [d1, d2, d3] => { results := [.lit (.bool true)], args := [d1, d2, d3] }
  | _ => none }
def csumSealsRow : OpenClaim := { program := "ytgfgebngmjchbaa", sum := "6b0c6669280f22cb795bcfef29922321aa54ffcfce21e4ac11eec9793768a7c6", func := "gangway/gangwaylaw03.CsumSeals", spec := "csumSeals", inPlace := ["internal/abi.NoEscape", "internal/bytealg.MakeNoZero"], apart := false }
def CsumSealsSaid : Prop := csumSealsRow.holds Try.pinned (OpenSpec.ofChange csumSealsSpec)

/-- ITS FALSE NEIGHBOUR: 'it returns false'. Refute it at one input. -/
def csumSealsWrong : ChangeSpec := { name := "csumSeals", fn := fun _ => fun
  | [d1, d2, d3] => { results := [.lit (.bool false)], args := [d1, d2, d3] }
  | _ => none }
def CsumSealsWrongFalsely : Prop := csumSealsRow.holds Try.pinned (OpenSpec.ofChange csumSealsWrong)

/-- 'gangwaylaw03.CsumPatches': WHATEVER THE INPUT: true; the input reads as it did. -/
def csumPatchesSpec : ChangeSpec := { name := "csumPatches", fn := fun _ => fun
  | [d1, d2, d3] => { results := [.lit (.bool true)], args := [d1, d2, d3] }
  | _ => none }
def csumPatchesRow : OpenClaim := { program := "ytgfgebngmjchbaa", sum := "6b0c6669280f22cb795bcfef29922321aa54ffcfce21e4ac11eec9793768a7c6", func := "gangway/gangwaylaw03.CsumPatches", spec := "csumPatches", inPlace := ["internal/abi.NoEscape", "internal/bytealg.MakeNoZero"], apart := false }
def CsumPatchesSaid : Prop := csumPatchesRow.holds Try.pinned (OpenSpec.ofChange csumPatchesSpec)

/-- ITS FALSE NEIGHBOUR: 'it returns false'. Refute it at one input. -/
def csumPatchesWrong : ChangeSpec := { name := "csumPatches", fn := fun _ => fun
  | [d1, d2, d3] => { results := [.lit (.bool false)], args := [d1, d2, d3] }
  | _ => none }
def CsumPatchesWrongFalsely : Prop := csumPatchesRow.holds Try.pinned (OpenSpec.ofChange csumPatchesWrong)

/-- 'gangwaylaw03.CsumOrder': WHATEVER THE INPUT: true; the input reads as it did. -/
def csumOrderSpec : ChangeSpec := { name := "csumOrder", fn := fun _ => fun
  | [d1, d2] => { results := [.lit (.bool true)], args := [d1, d2] }
  | _ => none }
def csumOrderRow : OpenClaim := { program := "ytgfgebngmjchbaa", sum := "6b0c6669280f22cb795bcfef29922321aa54ffcfce21e4ac11eec9793768a7c6", func := "gangway/gangwaylaw03.CsumOrder", spec := "csumOrder", inPlace := ["internal/abi.NoEscape", "internal/bytealg.MakeNoZero"], apart := false }
def CsumOrderSaid : Prop := csumOrderRow.holds Try.pinned (OpenSpec.ofChange csumOrderSpec)

/-- ITS FALSE NEIGHBOUR: 'it returns false'. Refute it at one input. -/
def csumOrderWrong : ChangeSpec := { name := "csumOrder", fn := fun _ => fun
  | [d1, d2] => { results := [.lit (.bool false)], args := [d1, d2] }
  | _ => none }
def CsumOrderWrongFalsely : Prop := csumOrderRow.holds Try.pinned (OpenSpec.ofChange csumOrderWrong)

/-- 'gangwaylaw03.CsumHalves': WHATEVER THE INPUT: true; the input reads as it did. -/
def csumHalvesSpec : ChangeSpec := { name := "csumHalves", fn := fun _ => fun
  | [d1, d2] => { results := [.lit (.bool true)], args := [d1, d2] }
  | _ => none }
def csumHalvesRow : OpenClaim := { program := "ytgfgebngmjchbaa", sum := "6b0c6669280f22cb795bcfef29922321aa54ffcfce21e4ac11eec9793768a7c6", func := "gangway/gangwaylaw03.CsumHalves", spec := "csumHalves", inPlace := ["internal/abi.NoEscape", "internal/bytealg.MakeNoZero"], apart := false }
def CsumHalvesSaid : Prop := csumHalvesRow.holds Try.pinned (OpenSpec.ofChange csumHalvesSpec)

/-- ITS FALSE NEIGHBOUR: 'it returns false'. Refute it at one input. -/
def csumHalvesWrong : ChangeSpec := { name := "csumHalves", fn := fun _ => fun
  | [d1, d2] => { results := [.lit (.bool false)], args := [d1, d2] }
  | _ => none }
def CsumHalvesWrongFalsely : Prop := csumHalvesRow.holds Try.pinned (OpenSpec.ofChange csumHalvesWrong)

/-- 'gangwaylaw03.CsumPseudo': WHATEVER THE INPUT: true; the input reads as it did. -/
def csumPseudoSpec : ChangeSpec := { name := "csumPseudo", fn := fun _ => fun
  | [d1, d2, d3] => { results := [.lit (.bool true)], args := [d1, d2, d3] }
  | _ => none }
def csumPseudoRow : OpenClaim := { program := "ytgfgebngmjchbaa", sum := "6b0c6669280f22cb795bcfef29922321aa54ffcfce21e4ac11eec9793768a7c6", func := "gangway/gangwaylaw03.CsumPseudo", spec := "csumPseudo", inPlace := ["internal/abi.NoEscape", "internal/bytealg.MakeNoZero"], apart := false }
def CsumPseudoSaid : Prop := csumPseudoRow.holds Try.pinned (OpenSpec.ofChange csumPseudoSpec)

/-- ITS FALSE NEIGHBOUR: 'it returns false'. Refute it at one input. -/
def csumPseudoWrong : ChangeSpec := { name := "csumPseudo", fn := fun _ => fun
  | [d1, d2, d3] => { results := [.lit (.bool false)], args := [d1, d2, d3] }
  | _ => none }
def CsumPseudoWrongFalsely : Prop := csumPseudoRow.holds Try.pinned (OpenSpec.ofChange csumPseudoWrong)

/- THE SECOND FORM. 'bulk': how many values and letters a reading holds, each counted each time it is reached (what is shared counts as often as it is met; a slice's spare places count too). A statement '..UptoSaid' is the law's where the arguments, and the package variables that the reading takes, are together of bulk at most 1048576: NARROWER than '..Said'. Prove '..Said' where nothing that the law and all that it calls make is longer than what came in: it says more and counts as full. Else prove '..UptoSaid'. A law counts once. -/
mutual
def uptoBulk {H : Type} : DataW H → Nat
  | .lit (.string bytes) => bytes.length + 1
  | .lit _ => 1
  | .nil => 1
  | .ptr d => uptoBulk d + 1
  | .slice elems spare => uptoBulkAll elems + uptoBulkAll spare + 1
  | .agg parts => uptoBulkAll parts + 1
  | .iface _ d => uptoBulk d + 1
  | .map entries => uptoBulkEntries entries + 1
  | .held _ => 1
def uptoBulkAll {H : Type} : List (DataW H) → Nat
  | [] => 0
  | d :: r => uptoBulk d + uptoBulkAll r
def uptoBulkEntries {H : Type} : List (Lit × DataW H) → Nat
  | [] => 0
  | x :: r => uptoBulkEntry x + uptoBulkEntries r
def uptoBulkEntry {H : Type} : Lit × DataW H → Nat
  | (.string bytes, d) => bytes.length + uptoBulk d + 1
  | (_, d) => uptoBulk d + 1
 end
def uptoSmall : (H : Type) → List (DataW H) → Bool := fun _ ds => decide (uptoBulkAll ds ≤ 1048576)
def OpenSpec.upto (s : _root_.Go.ChangeSpec) : _root_.Go.OpenSpec := { _root_.Go.OpenSpec.ofChange s with cond := some uptoSmall }

/-- 'gangwaylaw03.CsumOf', WHERE WHAT IT READS IS OF BULK AT MOST 1048576: true; the input reads as it did. -/
def csumOfUptoRow : OpenClaim := { program := "ytgfgebngmjchbaa", sum := "6b0c6669280f22cb795bcfef29922321aa54ffcfce21e4ac11eec9793768a7c6", func := "gangway/gangwaylaw03.CsumOf", spec := "csumOf", inPlace := ["internal/abi.NoEscape", "internal/bytealg.MakeNoZero"], apart := false, narrowed := true }
def CsumOfUptoSaid : Prop := csumOfUptoRow.holds Try.pinned (OpenSpec.upto csumOfSpec)

/-- 'gangwaylaw03.CsumPatch', WHERE WHAT IT READS IS OF BULK AT MOST 1048576: true; the input reads as it did. -/
def csumPatchUptoRow : OpenClaim := { program := "ytgfgebngmjchbaa", sum := "6b0c6669280f22cb795bcfef29922321aa54ffcfce21e4ac11eec9793768a7c6", func := "gangway/gangwaylaw03.CsumPatch", spec := "csumPatch", inPlace := ["internal/abi.NoEscape", "internal/bytealg.MakeNoZero"], apart := false, narrowed := true }
def CsumPatchUptoSaid : Prop := csumPatchUptoRow.holds Try.pinned (OpenSpec.upto csumPatchSpec)

/-- 'gangwaylaw03.CsumSeals', WHERE WHAT IT READS IS OF BULK AT MOST 1048576: true; the input reads as it did. -/
def csumSealsUptoRow : OpenClaim := { program := "ytgfgebngmjchbaa", sum := "6b0c6669280f22cb795bcfef29922321aa54ffcfce21e4ac11eec9793768a7c6", func := "gangway/gangwaylaw03.CsumSeals", spec := "csumSeals", inPlace := ["internal/abi.NoEscape", "internal/bytealg.MakeNoZero"], apart := false, narrowed := true }
def CsumSealsUptoSaid : Prop := csumSealsUptoRow.holds Try.pinned (OpenSpec.upto csumSealsSpec)

/-- 'gangwaylaw03.CsumPatches', WHERE WHAT IT READS IS OF BULK AT MOST 1048576: true; the input reads as it did. -/
def csumPatchesUptoRow : OpenClaim := { program := "ytgfgebngmjchbaa", sum := "6b0c6669280f22cb795bcfef29922321aa54ffcfce21e4ac11eec9793768a7c6", func := "gangway/gangwaylaw03.CsumPatches", spec := "csumPatches", inPlace := ["internal/abi.NoEscape", "internal/bytealg.MakeNoZero"], apart := false, narrowed := true }
def CsumPatchesUptoSaid : Prop := csumPatchesUptoRow.holds Try.pinned (OpenSpec.upto csumPatchesSpec)

/-- 'gangwaylaw03.CsumOrder', WHERE WHAT IT READS IS OF BULK AT MOST 1048576: true; the input reads as it did. -/
def csumOrderUptoRow : OpenClaim := { program := "ytgfgebngmjchbaa", sum := "6b0c6669280f22cb795bcfef29922321aa54ffcfce21e4ac11eec9793768a7c6", func := "gangway/gangwaylaw03.CsumOrder", spec := "csumOrder", inPlace := ["internal/abi.NoEscape", "internal/bytealg.MakeNoZero"], apart := false, narrowed := true }
def CsumOrderUptoSaid : Prop := csumOrderUptoRow.holds Try.pinned (OpenSpec.upto csumOrderSpec)

/-- 'gangwaylaw03.CsumHalves', WHERE WHAT IT READS IS OF BULK AT MOST 1048576: true; the input reads as it did. -/
def csumHalvesUptoRow : OpenClaim := { program := "ytgfgebngmjchbaa", sum := "6b0c6669280f22cb795bcfef29922321aa54ffcfce21e4ac11eec9793768a7c6", func := "gangway/gangwaylaw03.CsumHalves", spec := "csumHalves", inPlace := ["internal/abi.NoEscape", "internal/bytealg.MakeNoZero"], apart := false, narrowed := true }
def CsumHalvesUptoSaid : Prop := csumHalvesUptoRow.holds Try.pinned (OpenSpec.upto csumHalvesSpec)

/-- 'gangwaylaw03.CsumPseudo', WHERE WHAT IT READS IS OF BULK AT MOST 1048576: true; the input reads as it did. -/
def csumPseudoUptoRow : OpenClaim := { program := "ytgfgebngmjchbaa", sum := "6b0c6669280f22cb795bcfef29922321aa54ffcfce21e4ac11eec9793768a7c6", func := "gangway/gangwaylaw03.CsumPseudo", spec := "csumPseudo", inPlace := ["internal/abi.NoEscape", "internal/bytealg.MakeNoZero"], apart := false, narrowed := true }
def CsumPseudoUptoSaid : Prop := csumPseudoUptoRow.holds Try.pinned (OpenSpec.upto csumPseudoSpec)

end Rows
end Go.Proofs.Ytgfgebngmjchbaa
