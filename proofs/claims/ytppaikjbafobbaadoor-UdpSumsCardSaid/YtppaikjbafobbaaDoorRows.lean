/-
  NARROWER THAN 'FOR EVERY INPUT', by the rows' own cells (each row's printed sentence says how): UdpBuilds: laid · UdpParses: laid · UdpBack: laid · UdpSums: laid · UdpSizes: laid.
  DERIVED. THE GIVEN ROWS OF THIS SEAT. 5 by the template 'for every input the law returns true; each argument reads behind the call as it read before'; 0 by the template 'total and deterministic' (their statements: YtppaikjbafobbaaDoorTotals.lean).
  GIVEN WITH THE SEED: the statements are not yours to turn. If you find one false, say at which input.
  Laid BY PROGRAM, IN A SANDBOX (cutbox-rows.mjs): the forced cells as the released guide's own fill.sh prints them over the translation ed3384adb0b9c07c… (all of the seat's roots in one cut). By AI agents, Wed Nov 11 2026. No macro, syntax, notation, axiom, sorry.
-/
import Derived.Test.YtppaikjbafobbaaDoorChecked
import GoSem.Claim
import GoSem.ClaimJoined
import GoSem.ClaimMapViews
import Derived.JoinedTies
import Derived.KernelRfl
namespace Go.Proofs.YtppaikjbafobbaaDoor
/- THE CELL 'sum', in the pinned program and in every row, IS THE sha256 OF THE DUMP (.gsa) THAT YtppaikjbafobbaaDoorProg.lean LOADS. Nothing in Lean hashes anything: it is a label: what it is worth is what the hold of that sum in a sandbox is worth. -/
noncomputable def Tryd.pinned : Pinned := { name := "ytppaikjbafobbaadoor", sum := "ed3384adb0b9c07c433587820de3e5024da0bca5d3ecc6064bd172cccc837e27", checked := Tryd.checked }
namespace Rows
def none {H : Type} : Left H := { results := [], args := [] }

/- WHAT THE LISTED PACKAGE-LEVEL VARIABLES READ AS WHEN THE CALL BEGINS. Each datum BY PROGRAM (the guide's laid-datum.mjs) off the statement by which the dump's own 'gosem.cut.vars' lays the variable. In a bare row this is a premise. The card (YtppaikjbafobbaaDoorCards.lean) ties it to the program's text. -/
def laid_errors_errorType {H : Type} : DataW H := .iface "internal/reflectlite.rtype" (.agg [.ptr (.lit (.string [101, 114, 114, 111, 114]))])

/-- 'gangwaylaw07.UdpBuilds': WHATEVER THE INPUT: true; the input reads as it did. -/
def udpBuildsSpec : ChangeSpec := { name := "udpBuilds", fn := fun _ => fun
  | [d1, d2] => { results := [.lit (.bool true)], args := [d1, d2] }
  | _ => none }
def udpBuildsRow : OpenClaim := { program := "ytppaikjbafobbaadoor", sum := "ed3384adb0b9c07c433587820de3e5024da0bca5d3ecc6064bd172cccc837e27", func := "gangway/gangwaylaw07.UdpBuilds", spec := "udpBuilds", inPlace := ["internal/abi.NoEscape", "internal/bytealg.MakeNoZero", "internal/reflectlite.ValueOf", "(internal/reflectlite.Value).Type", "(internal/reflectlite.Value).IsNil", "internal/reflectlite.TypeOf", "(internal/reflectlite.Value).Elem", "(internal/reflectlite.Value).Set"], unfollowed := true, recurses := true, named := ["errors.errorType"], apart := false, laid := [("errors.errorType", laid_errors_errorType)] }
def UdpBuildsSaid : Prop := udpBuildsRow.holds Tryd.pinned (OpenSpec.ofChange udpBuildsSpec)

/-- ITS FALSE NEIGHBOUR: 'it returns false'. Refute it at one input. -/
def udpBuildsWrong : ChangeSpec := { name := "udpBuilds", fn := fun _ => fun
  | [d1, d2] => { results := [.lit (.bool false)], args := [d1, d2] }
  | _ => none }
def UdpBuildsWrongFalsely : Prop := udpBuildsRow.holds Tryd.pinned (OpenSpec.ofChange udpBuildsWrong)

/-- 'gangwaylaw07.UdpParses': WHATEVER THE INPUT: true; the input reads as it did. -/
def udpParsesSpec : ChangeSpec := { name := "udpParses", fn := fun _ => fun
  | [d1, d2] => { results := [.lit (.bool true)], args := [d1, d2] }
  | _ => none }
def udpParsesRow : OpenClaim := { program := "ytppaikjbafobbaadoor", sum := "ed3384adb0b9c07c433587820de3e5024da0bca5d3ecc6064bd172cccc837e27", func := "gangway/gangwaylaw07.UdpParses", spec := "udpParses", inPlace := ["internal/reflectlite.ValueOf", "(internal/reflectlite.Value).Type", "(internal/reflectlite.Value).IsNil", "internal/reflectlite.TypeOf", "(internal/reflectlite.Value).Elem", "(internal/reflectlite.Value).Set", "internal/abi.NoEscape", "internal/bytealg.MakeNoZero"], unfollowed := true, recurses := true, named := ["errors.errorType"], apart := false, laid := [("errors.errorType", laid_errors_errorType)] }
def UdpParsesSaid : Prop := udpParsesRow.holds Tryd.pinned (OpenSpec.ofChange udpParsesSpec)

/-- ITS FALSE NEIGHBOUR: 'it returns false'. Refute it at one input. -/
def udpParsesWrong : ChangeSpec := { name := "udpParses", fn := fun _ => fun
  | [d1, d2] => { results := [.lit (.bool false)], args := [d1, d2] }
  | _ => none }
def UdpParsesWrongFalsely : Prop := udpParsesRow.holds Tryd.pinned (OpenSpec.ofChange udpParsesWrong)

/-- 'gangwaylaw07.UdpBack': WHATEVER THE INPUT: true; the input reads as it did. -/
def udpBackSpec : ChangeSpec := { name := "udpBack", fn := fun _ => fun
  | [d1, d2, d3] => { results := [.lit (.bool true)], args := [d1, d2, d3] }
  | _ => none }
def udpBackRow : OpenClaim := { program := "ytppaikjbafobbaadoor", sum := "ed3384adb0b9c07c433587820de3e5024da0bca5d3ecc6064bd172cccc837e27", func := "gangway/gangwaylaw07.UdpBack", spec := "udpBack", inPlace := ["internal/abi.NoEscape", "internal/bytealg.MakeNoZero", "internal/reflectlite.ValueOf", "(internal/reflectlite.Value).Type", "(internal/reflectlite.Value).IsNil", "internal/reflectlite.TypeOf", "(internal/reflectlite.Value).Elem", "(internal/reflectlite.Value).Set"], unfollowed := true, recurses := true, named := ["errors.errorType"], apart := false, laid := [("errors.errorType", laid_errors_errorType)] }
def UdpBackSaid : Prop := udpBackRow.holds Tryd.pinned (OpenSpec.ofChange udpBackSpec)

/-- ITS FALSE NEIGHBOUR: 'it returns false'. Refute it at one input. -/
def udpBackWrong : ChangeSpec := { name := "udpBack", fn := fun _ => fun
  | [d1, d2, d3] => { results := [.lit (.bool false)], args := [d1, d2, d3] }
  | _ => none }
def UdpBackWrongFalsely : Prop := udpBackRow.holds Tryd.pinned (OpenSpec.ofChange udpBackWrong)

/-- 'gangwaylaw07.UdpSums': WHATEVER THE INPUT: true; the input reads as it did. -/
def udpSumsSpec : ChangeSpec := { name := "udpSums", fn := fun _ => fun
  | [d1, d2] => { results := [.lit (.bool true)], args := [d1, d2] }
  | _ => none }
def udpSumsRow : OpenClaim := { program := "ytppaikjbafobbaadoor", sum := "ed3384adb0b9c07c433587820de3e5024da0bca5d3ecc6064bd172cccc837e27", func := "gangway/gangwaylaw07.UdpSums", spec := "udpSums", inPlace := ["internal/abi.NoEscape", "internal/bytealg.MakeNoZero", "internal/reflectlite.ValueOf", "(internal/reflectlite.Value).Type", "(internal/reflectlite.Value).IsNil", "internal/reflectlite.TypeOf", "(internal/reflectlite.Value).Elem", "(internal/reflectlite.Value).Set"], unfollowed := true, recurses := true, named := ["errors.errorType"], apart := false, laid := [("errors.errorType", laid_errors_errorType)] }
def UdpSumsSaid : Prop := udpSumsRow.holds Tryd.pinned (OpenSpec.ofChange udpSumsSpec)

/-- ITS FALSE NEIGHBOUR: 'it returns false'. Refute it at one input. -/
def udpSumsWrong : ChangeSpec := { name := "udpSums", fn := fun _ => fun
  | [d1, d2] => { results := [.lit (.bool false)], args := [d1, d2] }
  | _ => none }
def UdpSumsWrongFalsely : Prop := udpSumsRow.holds Tryd.pinned (OpenSpec.ofChange udpSumsWrong)

/-- 'gangwaylaw07.UdpSizes': WHATEVER THE INPUT: true; the input reads as it did. -/
def udpSizesSpec : ChangeSpec := { name := "udpSizes", fn := fun _ => fun
  | [d1, d2] => { results := [.lit (.bool true)], args := [d1, d2] }
  | _ => none }
def udpSizesRow : OpenClaim := { program := "ytppaikjbafobbaadoor", sum := "ed3384adb0b9c07c433587820de3e5024da0bca5d3ecc6064bd172cccc837e27", func := "gangway/gangwaylaw07.UdpSizes", spec := "udpSizes", inPlace := ["internal/abi.NoEscape", "internal/bytealg.MakeNoZero", "internal/reflectlite.ValueOf", "(internal/reflectlite.Value).Type", "(internal/reflectlite.Value).IsNil", "internal/reflectlite.TypeOf", "(internal/reflectlite.Value).Elem", "(internal/reflectlite.Value).Set"], unfollowed := true, recurses := true, named := ["errors.errorType"], apart := false, laid := [("errors.errorType", laid_errors_errorType)] }
def UdpSizesSaid : Prop := udpSizesRow.holds Tryd.pinned (OpenSpec.ofChange udpSizesSpec)

/-- ITS FALSE NEIGHBOUR: 'it returns false'. Refute it at one input. -/
def udpSizesWrong : ChangeSpec := { name := "udpSizes", fn := fun _ => fun
  | [d1, d2] => { results := [.lit (.bool false)], args := [d1, d2] }
  | _ => none }
def UdpSizesWrongFalsely : Prop := udpSizesRow.holds Tryd.pinned (OpenSpec.ofChange udpSizesWrong)

/- THE SECOND FORM. 'bulk': how many values and letters a reading holds, each counted each time it is reached (what is shared counts as often as it is met; a slice's spare places count too). A statement '..UptoSaid' is the law's where the arguments, and the package variables that the reading takes, are together of bulk at most 1048576: NARROWER than '..Said'. Prove '..Said' where nothing that the law and all that it calls make is longer than what came in: it says more and counts as full. Else prove '..UptoSaid'. A law counts once. -/
mutual
def uptoBulk {H : Type} : DataW H → Nat
  | .lit (.string bytes) => bytes.length + 1
  | .lit _ => 1
  | .nil => 1
  | .ptr d => uptoBulk d + 1
  | .slice elems spare => uptoBulkAll elems + uptoBulkAll spare + 1
  | .agg parts => uptoBulkAll parts + 1
  | .iface _ d => uptoBulk d + 1
  | .map entries => uptoBulkEntries entries + 1
  | .held _ => 1
def uptoBulkAll {H : Type} : List (DataW H) → Nat
  | [] => 0
  | d :: r => uptoBulk d + uptoBulkAll r
def uptoBulkEntries {H : Type} : List (Lit × DataW H) → Nat
  | [] => 0
  | x :: r => uptoBulkEntry x + uptoBulkEntries r
def uptoBulkEntry {H : Type} : Lit × DataW H → Nat
  | (.string bytes, d) => bytes.length + uptoBulk d + 1
  | (_, d) => uptoBulk d + 1
 end
def uptoSmall : (H : Type) → List (DataW H) → Bool := fun _ ds => decide (uptoBulkAll ds ≤ 1048576)
def OpenSpec.upto (s : _root_.Go.ChangeSpec) : _root_.Go.OpenSpec := { _root_.Go.OpenSpec.ofChange s with cond := some uptoSmall }

/-- 'gangwaylaw07.UdpBuilds', WHERE WHAT IT READS IS OF BULK AT MOST 1048576: true; the input reads as it did. -/
def udpBuildsUptoRow : OpenClaim := { program := "ytppaikjbafobbaadoor", sum := "ed3384adb0b9c07c433587820de3e5024da0bca5d3ecc6064bd172cccc837e27", func := "gangway/gangwaylaw07.UdpBuilds", spec := "udpBuilds", inPlace := ["internal/abi.NoEscape", "internal/bytealg.MakeNoZero", "internal/reflectlite.ValueOf", "(internal/reflectlite.Value).Type", "(internal/reflectlite.Value).IsNil", "internal/reflectlite.TypeOf", "(internal/reflectlite.Value).Elem", "(internal/reflectlite.Value).Set"], unfollowed := true, recurses := true, named := ["errors.errorType"], apart := false, laid := [("errors.errorType", laid_errors_errorType)], narrowed := true }
def UdpBuildsUptoSaid : Prop := udpBuildsUptoRow.holds Tryd.pinned (OpenSpec.upto udpBuildsSpec)

/-- 'gangwaylaw07.UdpParses', WHERE WHAT IT READS IS OF BULK AT MOST 1048576: true; the input reads as it did. -/
def udpParsesUptoRow : OpenClaim := { program := "ytppaikjbafobbaadoor", sum := "ed3384adb0b9c07c433587820de3e5024da0bca5d3ecc6064bd172cccc837e27", func := "gangway/gangwaylaw07.UdpParses", spec := "udpParses", inPlace := ["internal/reflectlite.ValueOf", "(internal/reflectlite.Value).Type", "(internal/reflectlite.Value).IsNil", "internal/reflectlite.TypeOf", "(internal/reflectlite.Value).Elem", "(internal/reflectlite.Value).Set", "internal/abi.NoEscape", "internal/bytealg.MakeNoZero"], unfollowed := true, recurses := true, named := ["errors.errorType"], apart := false, laid := [("errors.errorType", laid_errors_errorType)], narrowed := true }
def UdpParsesUptoSaid : Prop := udpParsesUptoRow.holds Tryd.pinned (OpenSpec.upto udpParsesSpec)

/-- 'gangwaylaw07.UdpBack', WHERE WHAT IT READS IS OF BULK AT MOST 1048576: true; the input reads as it did. -/
def udpBackUptoRow : OpenClaim := { program := "ytppaikjbafobbaadoor", sum := "ed3384adb0b9c07c433587820de3e5024da0bca5d3ecc6064bd172cccc837e27", func := "gangway/gangwaylaw07.UdpBack", spec := "udpBack", inPlace := ["internal/abi.NoEscape", "internal/bytealg.MakeNoZero", "internal/reflectlite.ValueOf", "(internal/reflectlite.Value).Type", "(internal/reflectlite.Value).IsNil", "internal/reflectlite.TypeOf", "(internal/reflectlite.Value).Elem", "(internal/reflectlite.Value).Set"], unfollowed := true, recurses := true, named := ["errors.errorType"], apart := false, laid := [("errors.errorType", laid_errors_errorType)], narrowed := true }
def UdpBackUptoSaid : Prop := udpBackUptoRow.holds Tryd.pinned (OpenSpec.upto udpBackSpec)

/-- 'gangwaylaw07.UdpSums', WHERE WHAT IT READS IS OF BULK AT MOST 1048576: true; the input reads as it did. -/
def udpSumsUptoRow : OpenClaim := { program := "ytppaikjbafobbaadoor", sum := "ed3384adb0b9c07c433587820de3e5024da0bca5d3ecc6064bd172cccc837e27", func := "gangway/gangwaylaw07.UdpSums", spec := "udpSums", inPlace := ["internal/abi.NoEscape", "internal/bytealg.MakeNoZero", "internal/reflectlite.ValueOf", "(internal/reflectlite.Value).Type", "(internal/reflectlite.Value).IsNil", "internal/reflectlite.TypeOf", "(internal/reflectlite.Value).Elem", "(internal/reflectlite.Value).Set"], unfollowed := true, recurses := true, named := ["errors.errorType"], apart := false, laid := [("errors.errorType", laid_errors_errorType)], narrowed := true }
def UdpSumsUptoSaid : Prop := udpSumsUptoRow.holds Tryd.pinned (OpenSpec.upto udpSumsSpec)

/-- 'gangwaylaw07.UdpSizes', WHERE WHAT IT READS IS OF BULK AT MOST 1048576: true; the input reads as it did. -/
def udpSizesUptoRow : OpenClaim := { program := "ytppaikjbafobbaadoor", sum := "ed3384adb0b9c07c433587820de3e5024da0bca5d3ecc6064bd172cccc837e27", func := "gangway/gangwaylaw07.UdpSizes", spec := "udpSizes", inPlace := ["internal/abi.NoEscape", "internal/bytealg.MakeNoZero", "internal/reflectlite.ValueOf", "(internal/reflectlite.Value).Type", "(internal/reflectlite.Value).IsNil", "internal/reflectlite.TypeOf", "(internal/reflectlite.Value).Elem", "(internal/reflectlite.Value).Set"], unfollowed := true, recurses := true, named := ["errors.errorType"], apart := false, laid := [("errors.errorType", laid_errors_errorType)], narrowed := true }
def UdpSizesUptoSaid : Prop := udpSizesUptoRow.holds Tryd.pinned (OpenSpec.upto udpSizesSpec)

end Rows
end Go.Proofs.YtppaikjbafobbaaDoor
