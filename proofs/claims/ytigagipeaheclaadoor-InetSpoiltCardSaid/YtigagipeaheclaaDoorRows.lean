/-
  NARROWER THAN 'FOR EVERY INPUT', by the rows' own cells (each row's printed sentence says how): InetBuilds: laid · InetParses: laid · InetBack: laid · InetOlder: laid · InetSpoilt: laid · InetSizes: laid.
  DERIVED. THE GIVEN ROWS OF THIS SEAT. 6 by the template 'for every input the law returns true; each argument reads behind the call as it read before'; 0 by the template 'total and deterministic' (their statements: YtigagipeaheclaaDoorTotals.lean).
  GIVEN WITH THE SEED: the statements are not yours to turn. If you find one false, say at which input.
  Laid BY PROGRAM, IN A SANDBOX (cutbox-rows.mjs): the forced cells as the released guide's own fill.sh prints them over the translation 4509f1c7c36310de… (all of the seat's roots in one cut). By AI agents, Wed Nov 11 2026. No macro, syntax, notation, axiom, sorry.
-/
import Derived.Test.YtigagipeaheclaaDoorChecked
import GoSem.Claim
import GoSem.ClaimJoined
import GoSem.ClaimMapViews
import Derived.JoinedTies
import Derived.KernelRfl
namespace Go.Proofs.YtigagipeaheclaaDoor
/- THE CELL 'sum', in the pinned program and in every row, IS THE sha256 OF THE DUMP (.gsa) THAT YtigagipeaheclaaDoorProg.lean LOADS. Nothing in Lean hashes anything: it is a label: what it is worth is what the hold of that sum in a sandbox is worth. -/
noncomputable def Tryd.pinned : Pinned := { name := "ytigagipeaheclaadoor", sum := "4509f1c7c36310de4aedeba6ba9d32940f0ab15e54986ffd2d710f98b7bcdeaf", checked := Tryd.checked }
namespace Rows
def none {H : Type} : Left H := { results := [], args := [] }

/- WHAT THE LISTED PACKAGE-LEVEL VARIABLES READ AS WHEN THE CALL BEGINS. Each datum BY PROGRAM (the guide's laid-datum.mjs) off the statement by which the dump's own 'gosem.cut.vars' lays the variable. In a bare row this is a premise. The card (YtigagipeaheclaaDoorCards.lean) ties it to the program's text. -/
def laid_errors_errorType {H : Type} : DataW H := .iface "internal/reflectlite.rtype" (.agg [.ptr (.lit (.string [101, 114, 114, 111, 114]))])

/-- 'gangwaylaw06.InetBuilds': WHATEVER THE INPUT: true; the input reads as it did. -/
def inetBuildsSpec : ChangeSpec := { name := "inetBuilds", fn := fun _ => fun
  | [d] => { results := [.lit (.bool true)], args := [d] }
  | _ => none }
def inetBuildsRow : OpenClaim := { program := "ytigagipeaheclaadoor", sum := "4509f1c7c36310de4aedeba6ba9d32940f0ab15e54986ffd2d710f98b7bcdeaf", func := "gangway/gangwaylaw06.InetBuilds", spec := "inetBuilds", inPlace := ["internal/abi.NoEscape", "internal/bytealg.MakeNoZero", "internal/reflectlite.ValueOf", "(internal/reflectlite.Value).Type", "(internal/reflectlite.Value).IsNil", "internal/reflectlite.TypeOf", "(internal/reflectlite.Value).Elem", "(internal/reflectlite.Value).Set"], unfollowed := true, recurses := true, named := ["errors.errorType"], apart := false, laid := [("errors.errorType", laid_errors_errorType)] }
def InetBuildsSaid : Prop := inetBuildsRow.holds Tryd.pinned (OpenSpec.ofChange inetBuildsSpec)

/-- ITS FALSE NEIGHBOUR: 'it returns false'. Refute it at one input. -/
def inetBuildsWrong : ChangeSpec := { name := "inetBuilds", fn := fun _ => fun
  | [d] => { results := [.lit (.bool false)], args := [d] }
  | _ => none }
def InetBuildsWrongFalsely : Prop := inetBuildsRow.holds Tryd.pinned (OpenSpec.ofChange inetBuildsWrong)

/-- 'gangwaylaw06.InetParses': WHATEVER THE INPUT: true; the input reads as it did. -/
def inetParsesSpec : ChangeSpec := { name := "inetParses", fn := fun _ => fun
  | [d] => { results := [.lit (.bool true)], args := [d] }
  | _ => none }
def inetParsesRow : OpenClaim := { program := "ytigagipeaheclaadoor", sum := "4509f1c7c36310de4aedeba6ba9d32940f0ab15e54986ffd2d710f98b7bcdeaf", func := "gangway/gangwaylaw06.InetParses", spec := "inetParses", inPlace := ["internal/abi.NoEscape", "internal/bytealg.MakeNoZero", "internal/reflectlite.ValueOf", "(internal/reflectlite.Value).Type", "(internal/reflectlite.Value).IsNil", "internal/reflectlite.TypeOf", "(internal/reflectlite.Value).Elem", "(internal/reflectlite.Value).Set"], unfollowed := true, recurses := true, named := ["errors.errorType"], apart := false, laid := [("errors.errorType", laid_errors_errorType)] }
def InetParsesSaid : Prop := inetParsesRow.holds Tryd.pinned (OpenSpec.ofChange inetParsesSpec)

/-- ITS FALSE NEIGHBOUR: 'it returns false'. Refute it at one input. -/
def inetParsesWrong : ChangeSpec := { name := "inetParses", fn := fun _ => fun
  | [d] => { results := [.lit (.bool false)], args := [d] }
  | _ => none }
def InetParsesWrongFalsely : Prop := inetParsesRow.holds Tryd.pinned (OpenSpec.ofChange inetParsesWrong)

/-- 'gangwaylaw06.InetBack': WHATEVER THE INPUT: true; the input reads as it did. -/
def inetBackSpec : ChangeSpec := { name := "inetBack", fn := fun _ => fun
  | [d1, d2] => { results := [.lit (.bool true)], args := [d1, d2] }
  | _ => none }
def inetBackRow : OpenClaim := { program := "ytigagipeaheclaadoor", sum := "4509f1c7c36310de4aedeba6ba9d32940f0ab15e54986ffd2d710f98b7bcdeaf", func := "gangway/gangwaylaw06.InetBack", spec := "inetBack", inPlace := ["internal/abi.NoEscape", "internal/bytealg.MakeNoZero", "internal/reflectlite.ValueOf", "(internal/reflectlite.Value).Type", "(internal/reflectlite.Value).IsNil", "internal/reflectlite.TypeOf", "(internal/reflectlite.Value).Elem", "(internal/reflectlite.Value).Set"], unfollowed := true, recurses := true, named := ["errors.errorType"], apart := false, laid := [("errors.errorType", laid_errors_errorType)] }
def InetBackSaid : Prop := inetBackRow.holds Tryd.pinned (OpenSpec.ofChange inetBackSpec)

/-- ITS FALSE NEIGHBOUR: 'it returns false'. Refute it at one input. -/
def inetBackWrong : ChangeSpec := { name := "inetBack", fn := fun _ => fun
  | [d1, d2] => { results := [.lit (.bool false)], args := [d1, d2] }
  | _ => none }
def InetBackWrongFalsely : Prop := inetBackRow.holds Tryd.pinned (OpenSpec.ofChange inetBackWrong)

/-- 'gangwaylaw06.InetOlder': WHATEVER THE INPUT: true; the input reads as it did. -/
def inetOlderSpec : ChangeSpec := { name := "inetOlder", fn := fun _ => fun
  | [d1, d2] => { results := [.lit (.bool true)], args := [d1, d2] }
  | _ => none }
def inetOlderRow : OpenClaim := { program := "ytigagipeaheclaadoor", sum := "4509f1c7c36310de4aedeba6ba9d32940f0ab15e54986ffd2d710f98b7bcdeaf", func := "gangway/gangwaylaw06.InetOlder", spec := "inetOlder", inPlace := ["internal/abi.NoEscape", "internal/bytealg.MakeNoZero", "internal/reflectlite.ValueOf", "(internal/reflectlite.Value).Type", "(internal/reflectlite.Value).IsNil", "internal/reflectlite.TypeOf", "(internal/reflectlite.Value).Elem", "(internal/reflectlite.Value).Set"], unfollowed := true, recurses := true, named := ["errors.errorType"], apart := false, laid := [("errors.errorType", laid_errors_errorType)] }
def InetOlderSaid : Prop := inetOlderRow.holds Tryd.pinned (OpenSpec.ofChange inetOlderSpec)

/-- ITS FALSE NEIGHBOUR: 'it returns false'. Refute it at one input. -/
def inetOlderWrong : ChangeSpec := { name := "inetOlder", fn := fun _ => fun
  | [d1, d2] => { results := [.lit (.bool false)], args := [d1, d2] }
  | _ => none }
def InetOlderWrongFalsely : Prop := inetOlderRow.holds Tryd.pinned (OpenSpec.ofChange inetOlderWrong)

/-- 'gangwaylaw06.InetSpoilt': WHATEVER THE INPUT: true; the input reads as it did. -/
def inetSpoiltSpec : ChangeSpec := { name := "inetSpoilt", fn := fun _ => fun
  | [d1, d2, d3] => { results := [.lit (.bool true)], args := [d1, d2, d3] }
  | _ => none }
def inetSpoiltRow : OpenClaim := { program := "ytigagipeaheclaadoor", sum := "4509f1c7c36310de4aedeba6ba9d32940f0ab15e54986ffd2d710f98b7bcdeaf", func := "gangway/gangwaylaw06.InetSpoilt", spec := "inetSpoilt", inPlace := ["internal/abi.NoEscape", "internal/bytealg.MakeNoZero", "internal/reflectlite.ValueOf", "(internal/reflectlite.Value).Type", "(internal/reflectlite.Value).IsNil", "internal/reflectlite.TypeOf", "(internal/reflectlite.Value).Elem", "(internal/reflectlite.Value).Set"], unfollowed := true, recurses := true, named := ["errors.errorType"], apart := false, laid := [("errors.errorType", laid_errors_errorType)] }
def InetSpoiltSaid : Prop := inetSpoiltRow.holds Tryd.pinned (OpenSpec.ofChange inetSpoiltSpec)

/-- ITS FALSE NEIGHBOUR: 'it returns false'. Refute it at one input. -/
def inetSpoiltWrong : ChangeSpec := { name := "inetSpoilt", fn := fun _ => fun
  | [d1, d2, d3] => { results := [.lit (.bool false)], args := [d1, d2, d3] }
  | _ => none }
def InetSpoiltWrongFalsely : Prop := inetSpoiltRow.holds Tryd.pinned (OpenSpec.ofChange inetSpoiltWrong)

/-- 'gangwaylaw06.InetSizes': WHATEVER THE INPUT: true; the input reads as it did. -/
def inetSizesSpec : ChangeSpec := { name := "inetSizes", fn := fun _ => fun
  | [d1, d2] => { results := [.lit (.bool true)], args := [d1, d2] }
  | _ => none }
def inetSizesRow : OpenClaim := { program := "ytigagipeaheclaadoor", sum := "4509f1c7c36310de4aedeba6ba9d32940f0ab15e54986ffd2d710f98b7bcdeaf", func := "gangway/gangwaylaw06.InetSizes", spec := "inetSizes", inPlace := ["internal/abi.NoEscape", "internal/bytealg.MakeNoZero", "internal/reflectlite.ValueOf", "(internal/reflectlite.Value).Type", "(internal/reflectlite.Value).IsNil", "internal/reflectlite.TypeOf", "(internal/reflectlite.Value).Elem", "(internal/reflectlite.Value).Set"], unfollowed := true, recurses := true, named := ["errors.errorType"], apart := false, laid := [("errors.errorType", laid_errors_errorType)] }
def InetSizesSaid : Prop := inetSizesRow.holds Tryd.pinned (OpenSpec.ofChange inetSizesSpec)

/-- ITS FALSE NEIGHBOUR: 'it returns false'. Refute it at one input. -/
def inetSizesWrong : ChangeSpec := { name := "inetSizes", fn := fun _ => fun
  | [d1, d2] => { results := [.lit (.bool false)], args := [d1, d2] }
  | _ => none }
def InetSizesWrongFalsely : Prop := inetSizesRow.holds Tryd.pinned (OpenSpec.ofChange inetSizesWrong)

/- THE SECOND FORM. 'bulk': how many values and letters a reading holds, each counted each time it is reached (what is shared counts as often as it is met; a slice's spare places count too). A statement '..UptoSaid' is the law's where the arguments, and the package variables that the reading takes, are together of bulk at most 1048576: NARROWER than '..Said'. Prove '..Said' where nothing that the law and all that it calls make is longer than what came in: it says more and counts as full. Else prove '..UptoSaid'. A law counts once. -/
mutual
def uptoBulk {H : Type} : DataW H → Nat
  | .lit (.string bytes) => bytes.length + 1
  | .lit _ => 1
  | .nil => 1
  | .ptr d => uptoBulk d + 1
  | .slice elems spare => uptoBulkAll elems + uptoBulkAll spare + 1
  | .agg parts => uptoBulkAll parts + 1
  | .iface _ d => uptoBulk d + 1
  | .map entries => uptoBulkEntries entries + 1
  | .held _ => 1
def uptoBulkAll {H : Type} : List (DataW H) → Nat
  | [] => 0
  | d :: r => uptoBulk d + uptoBulkAll r
def uptoBulkEntries {H : Type} : List (Lit × DataW H) → Nat
  | [] => 0
  | x :: r => uptoBulkEntry x + uptoBulkEntries r
def uptoBulkEntry {H : Type} : Lit × DataW H → Nat
  | (.string bytes, d) => bytes.length + uptoBulk d + 1
  | (_, d) => uptoBulk d + 1
 end
def uptoSmall : (H : Type) → List (DataW H) → Bool := fun _ ds => decide (uptoBulkAll ds ≤ 1048576)
def OpenSpec.upto (s : _root_.Go.ChangeSpec) : _root_.Go.OpenSpec := { _root_.Go.OpenSpec.ofChange s with cond := some uptoSmall }

/-- 'gangwaylaw06.InetBuilds', WHERE WHAT IT READS IS OF BULK AT MOST 1048576: true; the input reads as it did. -/
def inetBuildsUptoRow : OpenClaim := { program := "ytigagipeaheclaadoor", sum := "4509f1c7c36310de4aedeba6ba9d32940f0ab15e54986ffd2d710f98b7bcdeaf", func := "gangway/gangwaylaw06.InetBuilds", spec := "inetBuilds", inPlace := ["internal/abi.NoEscape", "internal/bytealg.MakeNoZero", "internal/reflectlite.ValueOf", "(internal/reflectlite.Value).Type", "(internal/reflectlite.Value).IsNil", "internal/reflectlite.TypeOf", "(internal/reflectlite.Value).Elem", "(internal/reflectlite.Value).Set"], unfollowed := true, recurses := true, named := ["errors.errorType"], apart := false, laid := [("errors.errorType", laid_errors_errorType)], narrowed := true }
def InetBuildsUptoSaid : Prop := inetBuildsUptoRow.holds Tryd.pinned (OpenSpec.upto inetBuildsSpec)

/-- 'gangwaylaw06.InetParses', WHERE WHAT IT READS IS OF BULK AT MOST 1048576: true; the input reads as it did. -/
def inetParsesUptoRow : OpenClaim := { program := "ytigagipeaheclaadoor", sum := "4509f1c7c36310de4aedeba6ba9d32940f0ab15e54986ffd2d710f98b7bcdeaf", func := "gangway/gangwaylaw06.InetParses", spec := "inetParses", inPlace := ["internal/abi.NoEscape", "internal/bytealg.MakeNoZero", "internal/reflectlite.ValueOf", "(internal/reflectlite.Value).Type", "(internal/reflectlite.Value).IsNil", "internal/reflectlite.TypeOf", "(internal/reflectlite.Value).Elem", "(internal/reflectlite.Value).Set"], unfollowed := true, recurses := true, named := ["errors.errorType"], apart := false, laid := [("errors.errorType", laid_errors_errorType)], narrowed := true }
def InetParsesUptoSaid : Prop := inetParsesUptoRow.holds Tryd.pinned (OpenSpec.upto inetParsesSpec)

/-- 'gangwaylaw06.InetBack', WHERE WHAT IT READS IS OF BULK AT MOST 1048576: true; the input reads as it did. -/
def inetBackUptoRow : OpenClaim := { program := "ytigagipeaheclaadoor", sum := "4509f1c7c36310de4aedeba6ba9d32940f0ab15e54986ffd2d710f98b7bcdeaf", func := "gangway/gangwaylaw06.InetBack", spec := "inetBack", inPlace := ["internal/abi.NoEscape", "internal/bytealg.MakeNoZero", "internal/reflectlite.ValueOf", "(internal/reflectlite.Value).Type", "(internal/reflectlite.Value).IsNil", "internal/reflectlite.TypeOf", "(internal/reflectlite.Value).Elem", "(internal/reflectlite.Value).Set"], unfollowed := true, recurses := true, named := ["errors.errorType"], apart := false, laid := [("errors.errorType", laid_errors_errorType)], narrowed := true }
def InetBackUptoSaid : Prop := inetBackUptoRow.holds Tryd.pinned (OpenSpec.upto inetBackSpec)

/-- 'gangwaylaw06.InetOlder', WHERE WHAT IT READS IS OF BULK AT MOST 1048576: true; the input reads as it did. -/
def inetOlderUptoRow : OpenClaim := { program := "ytigagipeaheclaadoor", sum := "4509f1c7c36310de4aedeba6ba9d32940f0ab15e54986ffd2d710f98b7bcdeaf", func := "gangway/gangwaylaw06.InetOlder", spec := "inetOlder", inPlace := ["internal/abi.NoEscape", "internal/bytealg.MakeNoZero", "internal/reflectlite.ValueOf", "(internal/reflectlite.Value).Type", "(internal/reflectlite.Value).IsNil", "internal/reflectlite.TypeOf", "(internal/reflectlite.Value).Elem", "(internal/reflectlite.Value).Set"], unfollowed := true, recurses := true, named := ["errors.errorType"], apart := false, laid := [("errors.errorType", laid_errors_errorType)], narrowed := true }
def InetOlderUptoSaid : Prop := inetOlderUptoRow.holds Tryd.pinned (OpenSpec.upto inetOlderSpec)

/-- 'gangwaylaw06.InetSpoilt', WHERE WHAT IT READS IS OF BULK AT MOST 1048576: true; the input reads as it did. -/
def inetSpoiltUptoRow : OpenClaim := { program := "ytigagipeaheclaadoor", sum := "4509f1c7c36310de4aedeba6ba9d32940f0ab15e54986ffd2d710f98b7bcdeaf", func := "gangway/gangwaylaw06.InetSpoilt", spec := "inetSpoilt", inPlace := ["internal/abi.NoEscape", "internal/bytealg.MakeNoZero", "internal/reflectlite.ValueOf", "(internal/reflectlite.Value).Type", "(internal/reflectlite.Value).IsNil", "internal/reflectlite.TypeOf", "(internal/reflectlite.Value).Elem", "(internal/reflectlite.Value).Set"], unfollowed := true, recurses := true, named := ["errors.errorType"], apart := false, laid := [("errors.errorType", laid_errors_errorType)], narrowed := true }
def InetSpoiltUptoSaid : Prop := inetSpoiltUptoRow.holds Tryd.pinned (OpenSpec.upto inetSpoiltSpec)

/-- 'gangwaylaw06.InetSizes', WHERE WHAT IT READS IS OF BULK AT MOST 1048576: true; the input reads as it did. -/
def inetSizesUptoRow : OpenClaim := { program := "ytigagipeaheclaadoor", sum := "4509f1c7c36310de4aedeba6ba9d32940f0ab15e54986ffd2d710f98b7bcdeaf", func := "gangway/gangwaylaw06.InetSizes", spec := "inetSizes", inPlace := ["internal/abi.NoEscape", "internal/bytealg.MakeNoZero", "internal/reflectlite.ValueOf", "(internal/reflectlite.Value).Type", "(internal/reflectlite.Value).IsNil", "internal/reflectlite.TypeOf", "(internal/reflectlite.Value).Elem", "(internal/reflectlite.Value).Set"], unfollowed := true, recurses := true, named := ["errors.errorType"], apart := false, laid := [("errors.errorType", laid_errors_errorType)], narrowed := true }
def InetSizesUptoSaid : Prop := inetSizesUptoRow.holds Tryd.pinned (OpenSpec.upto inetSizesSpec)

end Rows
end Go.Proofs.YtigagipeaheclaaDoor
