/-
  NARROWER THAN 'FOR EVERY INPUT', by the rows' own cells (each row's printed sentence says how): StationTakes: laid · StationMakes: laid · StationBack: laid · StationSpoilt: laid · StationSizes: laid.
  DERIVED. THE GIVEN ROWS OF THIS SEAT. 5 by the template 'for every input the law returns true; each argument reads behind the call as it read before'; 0 by the template 'total and deterministic' (their statements: YtbkgaplldfilnaaDoorTotals.lean).
  GIVEN WITH THE SEED: the statements are not yours to turn. If you find one false, say at which input.
  Laid BY PROGRAM, IN A SANDBOX (cutbox-rows.mjs): the forced cells as the released guide's own fill.sh prints them over the translation c6379ff9f4e4d6df… (all of the seat's roots in one cut). By AI agents, Wed Nov 11 2026. No macro, syntax, notation, axiom, sorry.
-/
import Derived.Test.YtbkgaplldfilnaaDoorChecked
import GoSem.Claim
import GoSem.ClaimJoined
import GoSem.ClaimMapViews
import Derived.JoinedTies
import Derived.KernelRfl
namespace Go.Proofs.YtbkgaplldfilnaaDoor
/- THE CELL 'sum', in the pinned program and in every row, IS THE sha256 OF THE DUMP (.gsa) THAT YtbkgaplldfilnaaDoorProg.lean LOADS. Nothing in Lean hashes anything: it is a label: what it is worth is what the hold of that sum in a sandbox is worth. -/
noncomputable def Tryd.pinned : Pinned := { name := "ytbkgaplldfilnaadoor", sum := "c6379ff9f4e4d6df9e0e91334328d68a5b0e76b872da08ed6ab00dc14545a197", checked := Tryd.checked }
namespace Rows
def none {H : Type} : Left H := { results := [], args := [] }

/- WHAT THE LISTED PACKAGE-LEVEL VARIABLES READ AS WHEN THE CALL BEGINS. Each datum BY PROGRAM (the guide's laid-datum.mjs) off the statement by which the dump's own 'gosem.cut.vars' lays the variable. In a bare row this is a premise. The card (YtbkgaplldfilnaaDoorCards.lean) ties it to the program's text. -/
def laid_errors_errorType {H : Type} : DataW H := .iface "internal/reflectlite.rtype" (.agg [.ptr (.lit (.string [101, 114, 114, 111, 114]))])

/-- 'gangwaylaw20.StationTakes': WHATEVER THE INPUT: true; the input reads as it did. -/
def stationTakesSpec : ChangeSpec := { name := "stationTakes", fn := fun _ => fun
  | [d1, d2] => { results := [.lit (.bool true)], args := [d1, d2] }
  | _ => none }
def stationTakesRow : OpenClaim := { program := "ytbkgaplldfilnaadoor", sum := "c6379ff9f4e4d6df9e0e91334328d68a5b0e76b872da08ed6ab00dc14545a197", func := "gangway/gangwaylaw20.StationTakes", spec := "stationTakes", inPlace := ["internal/reflectlite.ValueOf", "(internal/reflectlite.Value).Type", "(internal/reflectlite.Value).IsNil", "internal/reflectlite.TypeOf", "(internal/reflectlite.Value).Elem", "(internal/reflectlite.Value).Set", "internal/abi.NoEscape", "internal/bytealg.MakeNoZero"], unfollowed := true, recurses := true, named := ["errors.errorType"], apart := false, laid := [("errors.errorType", laid_errors_errorType)] }
def StationTakesSaid : Prop := stationTakesRow.holds Tryd.pinned (OpenSpec.ofChange stationTakesSpec)

/-- ITS FALSE NEIGHBOUR: 'it returns false'. Refute it at one input. -/
def stationTakesWrong : ChangeSpec := { name := "stationTakes", fn := fun _ => fun
  | [d1, d2] => { results := [.lit (.bool false)], args := [d1, d2] }
  | _ => none }
def StationTakesWrongFalsely : Prop := stationTakesRow.holds Tryd.pinned (OpenSpec.ofChange stationTakesWrong)

/-- 'gangwaylaw20.StationMakes': WHATEVER THE INPUT: true; the input reads as it did. -/
def stationMakesSpec : ChangeSpec := { name := "stationMakes", fn := fun _ => fun
  | [d1, d2] => { results := [.lit (.bool true)], args := [d1, d2] }
  | _ => none }
def stationMakesRow : OpenClaim := { program := "ytbkgaplldfilnaadoor", sum := "c6379ff9f4e4d6df9e0e91334328d68a5b0e76b872da08ed6ab00dc14545a197", func := "gangway/gangwaylaw20.StationMakes", spec := "stationMakes", inPlace := ["internal/abi.NoEscape", "internal/bytealg.MakeNoZero", "internal/reflectlite.ValueOf", "(internal/reflectlite.Value).Type", "(internal/reflectlite.Value).IsNil", "internal/reflectlite.TypeOf", "(internal/reflectlite.Value).Elem", "(internal/reflectlite.Value).Set"], unfollowed := true, recurses := true, named := ["errors.errorType"], apart := false, laid := [("errors.errorType", laid_errors_errorType)] }
def StationMakesSaid : Prop := stationMakesRow.holds Tryd.pinned (OpenSpec.ofChange stationMakesSpec)

/-- ITS FALSE NEIGHBOUR: 'it returns false'. Refute it at one input. -/
def stationMakesWrong : ChangeSpec := { name := "stationMakes", fn := fun _ => fun
  | [d1, d2] => { results := [.lit (.bool false)], args := [d1, d2] }
  | _ => none }
def StationMakesWrongFalsely : Prop := stationMakesRow.holds Tryd.pinned (OpenSpec.ofChange stationMakesWrong)

/-- 'gangwaylaw20.StationBack': WHATEVER THE INPUT: true; the input reads as it did. -/
def stationBackSpec : ChangeSpec := { name := "stationBack", fn := fun _ => fun
  | [d1, d2, d3] => { results := [.lit (.bool true)], args := [d1, d2, d3] }
  | _ => none }
def stationBackRow : OpenClaim := { program := "ytbkgaplldfilnaadoor", sum := "c6379ff9f4e4d6df9e0e91334328d68a5b0e76b872da08ed6ab00dc14545a197", func := "gangway/gangwaylaw20.StationBack", spec := "stationBack", inPlace := ["internal/abi.NoEscape", "internal/bytealg.MakeNoZero", "internal/reflectlite.ValueOf", "(internal/reflectlite.Value).Type", "(internal/reflectlite.Value).IsNil", "internal/reflectlite.TypeOf", "(internal/reflectlite.Value).Elem", "(internal/reflectlite.Value).Set"], unfollowed := true, recurses := true, named := ["errors.errorType"], apart := false, laid := [("errors.errorType", laid_errors_errorType)] }
def StationBackSaid : Prop := stationBackRow.holds Tryd.pinned (OpenSpec.ofChange stationBackSpec)

/-- ITS FALSE NEIGHBOUR: 'it returns false'. Refute it at one input. -/
def stationBackWrong : ChangeSpec := { name := "stationBack", fn := fun _ => fun
  | [d1, d2, d3] => { results := [.lit (.bool false)], args := [d1, d2, d3] }
  | _ => none }
def StationBackWrongFalsely : Prop := stationBackRow.holds Tryd.pinned (OpenSpec.ofChange stationBackWrong)

/-- 'gangwaylaw20.StationSpoilt': WHATEVER THE INPUT: true; the input reads as it did. -/
def stationSpoiltSpec : ChangeSpec := { name := "stationSpoilt", fn := fun _ => fun
  | [d1, d2, d3] => { results := [.lit (.bool true)], args := [d1, d2, d3] }
  | _ => none }
def stationSpoiltRow : OpenClaim := { program := "ytbkgaplldfilnaadoor", sum := "c6379ff9f4e4d6df9e0e91334328d68a5b0e76b872da08ed6ab00dc14545a197", func := "gangway/gangwaylaw20.StationSpoilt", spec := "stationSpoilt", inPlace := ["internal/abi.NoEscape", "internal/bytealg.MakeNoZero", "internal/reflectlite.ValueOf", "(internal/reflectlite.Value).Type", "(internal/reflectlite.Value).IsNil", "internal/reflectlite.TypeOf", "(internal/reflectlite.Value).Elem", "(internal/reflectlite.Value).Set"], unfollowed := true, recurses := true, named := ["errors.errorType"], apart := false, laid := [("errors.errorType", laid_errors_errorType)] }
def StationSpoiltSaid : Prop := stationSpoiltRow.holds Tryd.pinned (OpenSpec.ofChange stationSpoiltSpec)

/-- ITS FALSE NEIGHBOUR: 'it returns false'. Refute it at one input. -/
def stationSpoiltWrong : ChangeSpec := { name := "stationSpoilt", fn := fun _ => fun
  | [d1, d2, d3] => { results := [.lit (.bool false)], args := [d1, d2, d3] }
  | _ => none }
def StationSpoiltWrongFalsely : Prop := stationSpoiltRow.holds Tryd.pinned (OpenSpec.ofChange stationSpoiltWrong)

/-- 'gangwaylaw20.StationSizes': WHATEVER THE INPUT: true; the input reads as it did. -/
def stationSizesSpec : ChangeSpec := { name := "stationSizes", fn := fun _ => fun
  | [d1, d2] => { results := [.lit (.bool true)], args := [d1, d2] }
  | _ => none }
def stationSizesRow : OpenClaim := { program := "ytbkgaplldfilnaadoor", sum := "c6379ff9f4e4d6df9e0e91334328d68a5b0e76b872da08ed6ab00dc14545a197", func := "gangway/gangwaylaw20.StationSizes", spec := "stationSizes", inPlace := ["internal/abi.NoEscape", "internal/bytealg.MakeNoZero", "internal/reflectlite.ValueOf", "(internal/reflectlite.Value).Type", "(internal/reflectlite.Value).IsNil", "internal/reflectlite.TypeOf", "(internal/reflectlite.Value).Elem", "(internal/reflectlite.Value).Set"], unfollowed := true, recurses := true, named := ["errors.errorType"], apart := false, laid := [("errors.errorType", laid_errors_errorType)] }
def StationSizesSaid : Prop := stationSizesRow.holds Tryd.pinned (OpenSpec.ofChange stationSizesSpec)

/-- ITS FALSE NEIGHBOUR: 'it returns false'. Refute it at one input. -/
def stationSizesWrong : ChangeSpec := { name := "stationSizes", fn := fun _ => fun
  | [d1, d2] => { results := [.lit (.bool false)], args := [d1, d2] }
  | _ => none }
def StationSizesWrongFalsely : Prop := stationSizesRow.holds Tryd.pinned (OpenSpec.ofChange stationSizesWrong)

/- THE SECOND FORM. 'bulk': how many values and letters a reading holds, each counted each time it is reached (what is shared counts as often as it is met; a slice's spare places count too). A statement '..UptoSaid' is the law's where the arguments, and the package variables that the reading takes, are together of bulk at most 1048576: NARROWER than '..Said'. Prove '..Said' where nothing that the law and all that it calls make is longer than what came in: it says more and counts as full. Else prove '..UptoSaid'. A law counts once. -/
mutual
def uptoBulk {H : Type} : DataW H → Nat
  | .lit (.string bytes) => bytes.length + 1
  | .lit _ => 1
  | .nil => 1
  | .ptr d => uptoBulk d + 1
  | .slice elems spare => uptoBulkAll elems + uptoBulkAll spare + 1
  | .agg parts => uptoBulkAll parts + 1
  | .iface _ d => uptoBulk d + 1
  | .map entries => uptoBulkEntries entries + 1
  | .held _ => 1
def uptoBulkAll {H : Type} : List (DataW H) → Nat
  | [] => 0
  | d :: r => uptoBulk d + uptoBulkAll r
def uptoBulkEntries {H : Type} : List (Lit × DataW H) → Nat
  | [] => 0
  | x :: r => uptoBulkEntry x + uptoBulkEntries r
def uptoBulkEntry {H : Type} : Lit × DataW H → Nat
  | (.string bytes, d) => bytes.length + uptoBulk d + 1
  | (_, d) => uptoBulk d + 1
 end
def uptoSmall : (H : Type) → List (DataW H) → Bool := fun _ ds => decide (uptoBulkAll ds ≤ 1048576)
def OpenSpec.upto (s : _root_.Go.ChangeSpec) : _root_.Go.OpenSpec := { _root_.Go.OpenSpec.ofChange s with cond := some uptoSmall }

/-- 'gangwaylaw20.StationTakes', WHERE WHAT IT READS IS OF BULK AT MOST 1048576: true; the input reads as it did. -/
def stationTakesUptoRow : OpenClaim := { program := "ytbkgaplldfilnaadoor", sum := "c6379ff9f4e4d6df9e0e91334328d68a5b0e76b872da08ed6ab00dc14545a197", func := "gangway/gangwaylaw20.StationTakes", spec := "stationTakes", inPlace := ["internal/reflectlite.ValueOf", "(internal/reflectlite.Value).Type", "(internal/reflectlite.Value).IsNil", "internal/reflectlite.TypeOf", "(internal/reflectlite.Value).Elem", "(internal/reflectlite.Value).Set", "internal/abi.NoEscape", "internal/bytealg.MakeNoZero"], unfollowed := true, recurses := true, named := ["errors.errorType"], apart := false, laid := [("errors.errorType", laid_errors_errorType)], narrowed := true }
def StationTakesUptoSaid : Prop := stationTakesUptoRow.holds Tryd.pinned (OpenSpec.upto stationTakesSpec)

/-- 'gangwaylaw20.StationMakes', WHERE WHAT IT READS IS OF BULK AT MOST 1048576: true; the input reads as it did. -/
def stationMakesUptoRow : OpenClaim := { program := "ytbkgaplldfilnaadoor", sum := "c6379ff9f4e4d6df9e0e91334328d68a5b0e76b872da08ed6ab00dc14545a197", func := "gangway/gangwaylaw20.StationMakes", spec := "stationMakes", inPlace := ["internal/abi.NoEscape", "internal/bytealg.MakeNoZero", "internal/reflectlite.ValueOf", "(internal/reflectlite.Value).Type", "(internal/reflectlite.Value).IsNil", "internal/reflectlite.TypeOf", "(internal/reflectlite.Value).Elem", "(internal/reflectlite.Value).Set"], unfollowed := true, recurses := true, named := ["errors.errorType"], apart := false, laid := [("errors.errorType", laid_errors_errorType)], narrowed := true }
def StationMakesUptoSaid : Prop := stationMakesUptoRow.holds Tryd.pinned (OpenSpec.upto stationMakesSpec)

/-- 'gangwaylaw20.StationBack', WHERE WHAT IT READS IS OF BULK AT MOST 1048576: true; the input reads as it did. -/
def stationBackUptoRow : OpenClaim := { program := "ytbkgaplldfilnaadoor", sum := "c6379ff9f4e4d6df9e0e91334328d68a5b0e76b872da08ed6ab00dc14545a197", func := "gangway/gangwaylaw20.StationBack", spec := "stationBack", inPlace := ["internal/abi.NoEscape", "internal/bytealg.MakeNoZero", "internal/reflectlite.ValueOf", "(internal/reflectlite.Value).Type", "(internal/reflectlite.Value).IsNil", "internal/reflectlite.TypeOf", "(internal/reflectlite.Value).Elem", "(internal/reflectlite.Value).Set"], unfollowed := true, recurses := true, named := ["errors.errorType"], apart := false, laid := [("errors.errorType", laid_errors_errorType)], narrowed := true }
def StationBackUptoSaid : Prop := stationBackUptoRow.holds Tryd.pinned (OpenSpec.upto stationBackSpec)

/-- 'gangwaylaw20.StationSpoilt', WHERE WHAT IT READS IS OF BULK AT MOST 1048576: true; the input reads as it did. -/
def stationSpoiltUptoRow : OpenClaim := { program := "ytbkgaplldfilnaadoor", sum := "c6379ff9f4e4d6df9e0e91334328d68a5b0e76b872da08ed6ab00dc14545a197", func := "gangway/gangwaylaw20.StationSpoilt", spec := "stationSpoilt", inPlace := ["internal/abi.NoEscape", "internal/bytealg.MakeNoZero", "internal/reflectlite.ValueOf", "(internal/reflectlite.Value).Type", "(internal/reflectlite.Value).IsNil", "internal/reflectlite.TypeOf", "(internal/reflectlite.Value).Elem", "(internal/reflectlite.Value).Set"], unfollowed := true, recurses := true, named := ["errors.errorType"], apart := false, laid := [("errors.errorType", laid_errors_errorType)], narrowed := true }
def StationSpoiltUptoSaid : Prop := stationSpoiltUptoRow.holds Tryd.pinned (OpenSpec.upto stationSpoiltSpec)

/-- 'gangwaylaw20.StationSizes', WHERE WHAT IT READS IS OF BULK AT MOST 1048576: true; the input reads as it did. -/
def stationSizesUptoRow : OpenClaim := { program := "ytbkgaplldfilnaadoor", sum := "c6379ff9f4e4d6df9e0e91334328d68a5b0e76b872da08ed6ab00dc14545a197", func := "gangway/gangwaylaw20.StationSizes", spec := "stationSizes", inPlace := ["internal/abi.NoEscape", "internal/bytealg.MakeNoZero", "internal/reflectlite.ValueOf", "(internal/reflectlite.Value).Type", "(internal/reflectlite.Value).IsNil", "internal/reflectlite.TypeOf", "(internal/reflectlite.Value).Elem", "(internal/reflectlite.Value).Set"], unfollowed := true, recurses := true, named := ["errors.errorType"], apart := false, laid := [("errors.errorType", laid_errors_errorType)], narrowed := true }
def StationSizesUptoSaid : Prop := stationSizesUptoRow.holds Tryd.pinned (OpenSpec.upto stationSizesSpec)

end Rows
end Go.Proofs.YtbkgaplldfilnaaDoor
