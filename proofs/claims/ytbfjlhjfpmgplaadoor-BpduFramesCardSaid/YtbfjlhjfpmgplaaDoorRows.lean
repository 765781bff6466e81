/-
  NARROWER THAN 'FOR EVERY INPUT', by the rows' own cells (each row's printed sentence says how): BpduBuilds: laid · BpduParses: laid · BpduFrames: laid · BpduBack: laid · BpduSizes: laid.
  DERIVED. THE GIVEN ROWS OF THIS SEAT. 5 by the template 'for every input the law returns true; each argument reads behind the call as it read before'; 0 by the template 'total and deterministic' (their statements: YtbfjlhjfpmgplaaDoorTotals.lean).
  GIVEN WITH THE SEED: the statements are not yours to turn. If you find one false, say at which input.
  Laid BY PROGRAM, IN A SANDBOX (cutbox-rows.mjs): the forced cells as the released guide's own fill.sh prints them over the translation d06f5801c4835fd4… (all of the seat's roots in one cut). By AI agents, Wed Nov 11 2026. No macro, syntax, notation, axiom, sorry.
-/
import Derived.Test.YtbfjlhjfpmgplaaDoorChecked
import GoSem.Claim
import GoSem.ClaimJoined
import GoSem.ClaimMapViews
import Derived.JoinedTies
import Derived.KernelRfl
namespace Go.Proofs.YtbfjlhjfpmgplaaDoor
/- THE CELL 'sum', in the pinned program and in every row, IS THE sha256 OF THE DUMP (.gsa) THAT YtbfjlhjfpmgplaaDoorProg.lean LOADS. Nothing in Lean hashes anything: it is a label: what it is worth is what the hold of that sum in a sandbox is worth. -/
noncomputable def Tryd.pinned : Pinned := { name := "ytbfjlhjfpmgplaadoor", sum := "d06f5801c4835fd4e4d3c213bfac1a7705351d29979686269754e82818c8d110", checked := Tryd.checked }
namespace Rows
def none {H : Type} : Left H := { results := [], args := [] }

/- WHAT THE LISTED PACKAGE-LEVEL VARIABLES READ AS WHEN THE CALL BEGINS. Each datum BY PROGRAM (the guide's laid-datum.mjs) off the statement by which the dump's own 'gosem.cut.vars' lays the variable. In a bare row this is a premise. The card (YtbfjlhjfpmgplaaDoorCards.lean) ties it to the program's text. -/
def laid_errors_errorType {H : Type} : DataW H := .iface "internal/reflectlite.rtype" (.agg [.ptr (.lit (.string [101, 114, 114, 111, 114]))])

/-- 'gangwaylaw09.BpduBuilds': WHATEVER THE INPUT: true; the input reads as it did. -/
def bpduBuildsSpec : ChangeSpec := { name := "bpduBuilds", fn := fun _ => fun
  | [d] => { results := [.lit (.bool true)], args := [d] }
  | _ => none }
def bpduBuildsRow : OpenClaim := { program := "ytbfjlhjfpmgplaadoor", sum := "d06f5801c4835fd4e4d3c213bfac1a7705351d29979686269754e82818c8d110", func := "gangway/gangwaylaw09.BpduBuilds", spec := "bpduBuilds", inPlace := ["internal/reflectlite.ValueOf", "(internal/reflectlite.Value).Type", "(internal/reflectlite.Value).IsNil", "internal/reflectlite.TypeOf", "(internal/reflectlite.Value).Elem", "(internal/reflectlite.Value).Set"], unfollowed := true, recurses := true, named := ["errors.errorType"], apart := false, laid := [("errors.errorType", laid_errors_errorType)] }
def BpduBuildsSaid : Prop := bpduBuildsRow.holds Tryd.pinned (OpenSpec.ofChange bpduBuildsSpec)

/-- ITS FALSE NEIGHBOUR: 'it returns false'. Refute it at one input. -/
def bpduBuildsWrong : ChangeSpec := { name := "bpduBuilds", fn := fun _ => fun
  | [d] => { results := [.lit (.bool false)], args := [d] }
  | _ => none }
def BpduBuildsWrongFalsely : Prop := bpduBuildsRow.holds Tryd.pinned (OpenSpec.ofChange bpduBuildsWrong)

/-- 'gangwaylaw09.BpduParses': WHATEVER THE INPUT: true; the input reads as it did. -/
def bpduParsesSpec : ChangeSpec := { name := "bpduParses", fn := fun _ => fun
  | [d] => { results := [.lit (.bool true)], args := [d] }
  | _ => none }
def bpduParsesRow : OpenClaim := { program := "ytbfjlhjfpmgplaadoor", sum := "d06f5801c4835fd4e4d3c213bfac1a7705351d29979686269754e82818c8d110", func := "gangway/gangwaylaw09.BpduParses", spec := "bpduParses", inPlace := ["internal/reflectlite.ValueOf", "(internal/reflectlite.Value).Type", "(internal/reflectlite.Value).IsNil", "internal/reflectlite.TypeOf", "(internal/reflectlite.Value).Elem", "(internal/reflectlite.Value).Set"], unfollowed := true, recurses := true, named := ["errors.errorType"], apart := false, laid := [("errors.errorType", laid_errors_errorType)] }
def BpduParsesSaid : Prop := bpduParsesRow.holds Tryd.pinned (OpenSpec.ofChange bpduParsesSpec)

/-- ITS FALSE NEIGHBOUR: 'it returns false'. Refute it at one input. -/
def bpduParsesWrong : ChangeSpec := { name := "bpduParses", fn := fun _ => fun
  | [d] => { results := [.lit (.bool false)], args := [d] }
  | _ => none }
def BpduParsesWrongFalsely : Prop := bpduParsesRow.holds Tryd.pinned (OpenSpec.ofChange bpduParsesWrong)

/-- 'gangwaylaw09.BpduFrames': WHATEVER THE INPUT: true; the input reads as it did. -/
def bpduFramesSpec : ChangeSpec := { name := "bpduFrames", fn := fun _ => fun
  | [d1, d2, d3] => { results := [.lit (.bool true)], args := [d1, d2, d3] }
  | _ => none }
def bpduFramesRow : OpenClaim := { program := "ytbfjlhjfpmgplaadoor", sum := "d06f5801c4835fd4e4d3c213bfac1a7705351d29979686269754e82818c8d110", func := "gangway/gangwaylaw09.BpduFrames", spec := "bpduFrames", inPlace := ["internal/reflectlite.ValueOf", "(internal/reflectlite.Value).Type", "(internal/reflectlite.Value).IsNil", "internal/reflectlite.TypeOf", "(internal/reflectlite.Value).Elem", "(internal/reflectlite.Value).Set"], unfollowed := true, recurses := true, named := ["errors.errorType"], apart := false, laid := [("errors.errorType", laid_errors_errorType)] }
def BpduFramesSaid : Prop := bpduFramesRow.holds Tryd.pinned (OpenSpec.ofChange bpduFramesSpec)

/-- ITS FALSE NEIGHBOUR: 'it returns false'. Refute it at one input. -/
def bpduFramesWrong : ChangeSpec := { name := "bpduFrames", fn := fun _ => fun
  | [d1, d2, d3] => { results := [.lit (.bool false)], args := [d1, d2, d3] }
  | _ => none }
def BpduFramesWrongFalsely : Prop := bpduFramesRow.holds Tryd.pinned (OpenSpec.ofChange bpduFramesWrong)

/-- 'gangwaylaw09.BpduBack': WHATEVER THE INPUT: true; the input reads as it did. -/
def bpduBackSpec : ChangeSpec := { name := "bpduBack", fn := fun _ => fun
  | [d1, d2] => { results := [.lit (.bool true)], args := [d1, d2] }
  | _ => none }
def bpduBackRow : OpenClaim := { program := "ytbfjlhjfpmgplaadoor", sum := "d06f5801c4835fd4e4d3c213bfac1a7705351d29979686269754e82818c8d110", func := "gangway/gangwaylaw09.BpduBack", spec := "bpduBack", inPlace := ["internal/reflectlite.ValueOf", "(internal/reflectlite.Value).Type", "(internal/reflectlite.Value).IsNil", "internal/reflectlite.TypeOf", "(internal/reflectlite.Value).Elem", "(internal/reflectlite.Value).Set"], unfollowed := true, recurses := true, named := ["errors.errorType"], apart := false, laid := [("errors.errorType", laid_errors_errorType)] }
def BpduBackSaid : Prop := bpduBackRow.holds Tryd.pinned (OpenSpec.ofChange bpduBackSpec)

/-- ITS FALSE NEIGHBOUR: 'it returns false'. Refute it at one input. -/
def bpduBackWrong : ChangeSpec := { name := "bpduBack", fn := fun _ => fun
  | [d1, d2] => { results := [.lit (.bool false)], args := [d1, d2] }
  | _ => none }
def BpduBackWrongFalsely : Prop := bpduBackRow.holds Tryd.pinned (OpenSpec.ofChange bpduBackWrong)

/-- 'gangwaylaw09.BpduSizes': WHATEVER THE INPUT: true; the input reads as it did. -/
def bpduSizesSpec : ChangeSpec := { name := "bpduSizes", fn := fun _ => fun
  | [d1, d2] => { results := [.lit (.bool true)], args := [d1, d2] }
  | _ => none }
def bpduSizesRow : OpenClaim := { program := "ytbfjlhjfpmgplaadoor", sum := "d06f5801c4835fd4e4d3c213bfac1a7705351d29979686269754e82818c8d110", func := "gangway/gangwaylaw09.BpduSizes", spec := "bpduSizes", inPlace := ["internal/reflectlite.ValueOf", "(internal/reflectlite.Value).Type", "(internal/reflectlite.Value).IsNil", "internal/reflectlite.TypeOf", "(internal/reflectlite.Value).Elem", "(internal/reflectlite.Value).Set"], unfollowed := true, recurses := true, named := ["errors.errorType"], apart := false, laid := [("errors.errorType", laid_errors_errorType)] }
def BpduSizesSaid : Prop := bpduSizesRow.holds Tryd.pinned (OpenSpec.ofChange bpduSizesSpec)

/-- ITS FALSE NEIGHBOUR: 'it returns false'. Refute it at one input. -/
def bpduSizesWrong : ChangeSpec := { name := "bpduSizes", fn := fun _ => fun
  | [d1, d2] => { results := [.lit (.bool false)], args := [d1, d2] }
  | _ => none }
def BpduSizesWrongFalsely : Prop := bpduSizesRow.holds Tryd.pinned (OpenSpec.ofChange bpduSizesWrong)

/- THE SECOND FORM. 'bulk': how many values and letters a reading holds, each counted each time it is reached (what is shared counts as often as it is met; a slice's spare places count too). A statement '..UptoSaid' is the law's where the arguments, and the package variables that the reading takes, are together of bulk at most 1048576: NARROWER than '..Said'. Prove '..Said' where nothing that the law and all that it calls make is longer than what came in: it says more and counts as full. Else prove '..UptoSaid'. A law counts once. -/
mutual
def uptoBulk {H : Type} : DataW H → Nat
  | .lit (.string bytes) => bytes.length + 1
  | .lit _ => 1
  | .nil => 1
  | .ptr d => uptoBulk d + 1
  | .slice elems spare => uptoBulkAll elems + uptoBulkAll spare + 1
  | .agg parts => uptoBulkAll parts + 1
  | .iface _ d => uptoBulk d + 1
  | .map entries => uptoBulkEntries entries + 1
  | .held _ => 1
def uptoBulkAll {H : Type} : List (DataW H) → Nat
  | [] => 0
  | d :: r => uptoBulk d + uptoBulkAll r
def uptoBulkEntries {H : Type} : List (Lit × DataW H) → Nat
  | [] => 0
  | x :: r => uptoBulkEntry x + uptoBulkEntries r
def uptoBulkEntry {H : Type} : Lit × DataW H → Nat
  | (.string bytes, d) => bytes.length + uptoBulk d + 1
  | (_, d) => uptoBulk d + 1
 end
def uptoSmall : (H : Type) → List (DataW H) → Bool := fun _ ds => decide (uptoBulkAll ds ≤ 1048576)
def OpenSpec.upto (s : _root_.Go.ChangeSpec) : _root_.Go.OpenSpec := { _root_.Go.OpenSpec.ofChange s with cond := some uptoSmall }

/-- 'gangwaylaw09.BpduBuilds', WHERE WHAT IT READS IS OF BULK AT MOST 1048576: true; the input reads as it did. -/
def bpduBuildsUptoRow : OpenClaim := { program := "ytbfjlhjfpmgplaadoor", sum := "d06f5801c4835fd4e4d3c213bfac1a7705351d29979686269754e82818c8d110", func := "gangway/gangwaylaw09.BpduBuilds", spec := "bpduBuilds", inPlace := ["internal/reflectlite.ValueOf", "(internal/reflectlite.Value).Type", "(internal/reflectlite.Value).IsNil", "internal/reflectlite.TypeOf", "(internal/reflectlite.Value).Elem", "(internal/reflectlite.Value).Set"], unfollowed := true, recurses := true, named := ["errors.errorType"], apart := false, laid := [("errors.errorType", laid_errors_errorType)], narrowed := true }
def BpduBuildsUptoSaid : Prop := bpduBuildsUptoRow.holds Tryd.pinned (OpenSpec.upto bpduBuildsSpec)

/-- 'gangwaylaw09.BpduParses', WHERE WHAT IT READS IS OF BULK AT MOST 1048576: true; the input reads as it did. -/
def bpduParsesUptoRow : OpenClaim := { program := "ytbfjlhjfpmgplaadoor", sum := "d06f5801c4835fd4e4d3c213bfac1a7705351d29979686269754e82818c8d110", func := "gangway/gangwaylaw09.BpduParses", spec := "bpduParses", inPlace := ["internal/reflectlite.ValueOf", "(internal/reflectlite.Value).Type", "(internal/reflectlite.Value).IsNil", "internal/reflectlite.TypeOf", "(internal/reflectlite.Value).Elem", "(internal/reflectlite.Value).Set"], unfollowed := true, recurses := true, named := ["errors.errorType"], apart := false, laid := [("errors.errorType", laid_errors_errorType)], narrowed := true }
def BpduParsesUptoSaid : Prop := bpduParsesUptoRow.holds Tryd.pinned (OpenSpec.upto bpduParsesSpec)

/-- 'gangwaylaw09.BpduFrames', WHERE WHAT IT READS IS OF BULK AT MOST 1048576: true; the input reads as it did. -/
def bpduFramesUptoRow : OpenClaim := { program := "ytbfjlhjfpmgplaadoor", sum := "d06f5801c4835fd4e4d3c213bfac1a7705351d29979686269754e82818c8d110", func := "gangway/gangwaylaw09.BpduFrames", spec := "bpduFrames", inPlace := ["internal/reflectlite.ValueOf", "(internal/reflectlite.Value).Type", "(internal/reflectlite.Value).IsNil", "internal/reflectlite.TypeOf", "(internal/reflectlite.Value).Elem", "(internal/reflectlite.Value).Set"], unfollowed := true, recurses := true, named := ["errors.errorType"], apart := false, laid := [("errors.errorType", laid_errors_errorType)], narrowed := true }
def BpduFramesUptoSaid : Prop := bpduFramesUptoRow.holds Tryd.pinned (OpenSpec.upto bpduFramesSpec)

/-- 'gangwaylaw09.BpduBack', WHERE WHAT IT READS IS OF BULK AT MOST 1048576: true; the input reads as it did. -/
def bpduBackUptoRow : OpenClaim := { program := "ytbfjlhjfpmgplaadoor", sum := "d06f5801c4835fd4e4d3c213bfac1a7705351d29979686269754e82818c8d110", func := "gangway/gangwaylaw09.BpduBack", spec := "bpduBack", inPlace := ["internal/reflectlite.ValueOf", "(internal/reflectlite.Value).Type", "(internal/reflectlite.Value).IsNil", "internal/reflectlite.TypeOf", "(internal/reflectlite.Value).Elem", "(internal/reflectlite.Value).Set"], unfollowed := true, recurses := true, named := ["errors.errorType"], apart := false, laid := [("errors.errorType", laid_errors_errorType)], narrowed := true }
def BpduBackUptoSaid : Prop := bpduBackUptoRow.holds Tryd.pinned (OpenSpec.upto bpduBackSpec)

/-- 'gangwaylaw09.BpduSizes', WHERE WHAT IT READS IS OF BULK AT MOST 1048576: true; the input reads as it did. -/
def bpduSizesUptoRow : OpenClaim := { program := "ytbfjlhjfpmgplaadoor", sum := "d06f5801c4835fd4e4d3c213bfac1a7705351d29979686269754e82818c8d110", func := "gangway/gangwaylaw09.BpduSizes", spec := "bpduSizes", inPlace := ["internal/reflectlite.ValueOf", "(internal/reflectlite.Value).Type", "(internal/reflectlite.Value).IsNil", "internal/reflectlite.TypeOf", "(internal/reflectlite.Value).Elem", "(internal/reflectlite.Value).Set"], unfollowed := true, recurses := true, named := ["errors.errorType"], apart := false, laid := [("errors.errorType", laid_errors_errorType)], narrowed := true }
def BpduSizesUptoSaid : Prop := bpduSizesUptoRow.holds Tryd.pinned (OpenSpec.upto bpduSizesSpec)

end Rows
end Go.Proofs.YtbfjlhjfpmgplaaDoor
