/-
  NARROWER THAN 'FOR EVERY INPUT', by the rows' own cells (each row's printed sentence says how): OctetsPut: laid · OctetsHex: laid · OctetsBack: laid · OctetsParts: laid · OctetsLess: laid · OctetsFar: laid.
  DERIVED. THE GIVEN ROWS OF THIS SEAT. 6 by the template 'for every input the law returns true; each argument reads behind the call as it read before'; 0 by the template 'total and deterministic' (their statements: YtclffgkefbdcpaaDoorTotals.lean).
  GIVEN WITH THE SEED: the statements are not yours to turn. If you find one false, say at which input.
  Laid BY PROGRAM, IN A SANDBOX (cutbox-rows.mjs): the forced cells as the released guide's own fill.sh prints them over the translation 2e4327951800f5e2… (all of the seat's roots in one cut). By AI agents, Wed Nov 11 2026. No macro, syntax, notation, axiom, sorry.
-/
import Derived.Test.YtclffgkefbdcpaaDoorChecked
import GoSem.Claim
import GoSem.ClaimJoined
import GoSem.ClaimMapViews
import Derived.JoinedTies
import Derived.KernelRfl
namespace Go.Proofs.YtclffgkefbdcpaaDoor
/- THE CELL 'sum', in the pinned program and in every row, IS THE sha256 OF THE DUMP (.gsa) THAT YtclffgkefbdcpaaDoorProg.lean LOADS. Nothing in Lean hashes anything: it is a label: what it is worth is what the hold of that sum in a sandbox is worth. -/
noncomputable def Tryd.pinned : Pinned := { name := "ytclffgkefbdcpaadoor", sum := "2e4327951800f5e2f0acd746030c24c1b1d74f7293bb5ecc4ba551fd4c382759", checked := Tryd.checked }
namespace Rows
def none {H : Type} : Left H := { results := [], args := [] }

/- WHAT THE LISTED PACKAGE-LEVEL VARIABLES READ AS WHEN THE CALL BEGINS. Each datum BY PROGRAM (the guide's laid-datum.mjs) off the statement by which the dump's own 'gosem.cut.vars' lays the variable. In a bare row this is a premise. The card (YtclffgkefbdcpaaDoorCards.lean) ties it to the program's text. -/
def laid_errors_errorType {H : Type} : DataW H := .iface "internal/reflectlite.rtype" (.agg [.ptr (.lit (.string [101, 114, 114, 111, 114]))])

/-- 'gangwaylaw01.OctetsPut': WHATEVER THE INPUT: true; the input reads as it did. -/
def octetsPutSpec : ChangeSpec := { name := "octetsPut", fn := fun _ => fun
  | [d1, d2] => { results := [.lit (.bool true)], args := [d1, d2] }
  | _ => none }
def octetsPutRow : OpenClaim := { program := "ytclffgkefbdcpaadoor", sum := "2e4327951800f5e2f0acd746030c24c1b1d74f7293bb5ecc4ba551fd4c382759", func := "gangway/gangwaylaw01.OctetsPut", spec := "octetsPut", inPlace := ["internal/reflectlite.ValueOf", "(internal/reflectlite.Value).Type", "(internal/reflectlite.Value).IsNil", "internal/reflectlite.TypeOf", "(internal/reflectlite.Value).Elem", "(internal/reflectlite.Value).Set", "internal/bytealg.IndexByteString", "internal/abi.NoEscape"], unfollowed := true, recurses := true, named := ["errors.errorType"], apart := false, laid := [("errors.errorType", laid_errors_errorType)] }
def OctetsPutSaid : Prop := octetsPutRow.holds Tryd.pinned (OpenSpec.ofChange octetsPutSpec)

/-- ITS FALSE NEIGHBOUR: 'it returns false'. Refute it at one input. -/
def octetsPutWrong : ChangeSpec := { name := "octetsPut", fn := fun _ => fun
  | [d1, d2] => { results := [.lit (.bool false)], args := [d1, d2] }
  | _ => none }
def OctetsPutWrongFalsely : Prop := octetsPutRow.holds Tryd.pinned (OpenSpec.ofChange octetsPutWrong)

/-- 'gangwaylaw01.OctetsHex': WHATEVER THE INPUT: true; the input reads as it did. -/
def octetsHexSpec : ChangeSpec := { name := "octetsHex", fn := fun _ => fun
  | [d1, d2] => { results := [.lit (.bool true)], args := [d1, d2] }
  | _ => none }
def octetsHexRow : OpenClaim := { program := "ytclffgkefbdcpaadoor", sum := "2e4327951800f5e2f0acd746030c24c1b1d74f7293bb5ecc4ba551fd4c382759", func := "gangway/gangwaylaw01.OctetsHex", spec := "octetsHex", inPlace := ["internal/bytealg.IndexByteString", "internal/reflectlite.ValueOf", "(internal/reflectlite.Value).Type", "(internal/reflectlite.Value).IsNil", "internal/reflectlite.TypeOf", "(internal/reflectlite.Value).Elem", "(internal/reflectlite.Value).Set", "internal/abi.NoEscape"], unfollowed := true, recurses := true, named := ["errors.errorType"], apart := false, laid := [("errors.errorType", laid_errors_errorType)] }
def OctetsHexSaid : Prop := octetsHexRow.holds Tryd.pinned (OpenSpec.ofChange octetsHexSpec)

/-- ITS FALSE NEIGHBOUR: 'it returns false'. Refute it at one input. -/
def octetsHexWrong : ChangeSpec := { name := "octetsHex", fn := fun _ => fun
  | [d1, d2] => { results := [.lit (.bool false)], args := [d1, d2] }
  | _ => none }
def OctetsHexWrongFalsely : Prop := octetsHexRow.holds Tryd.pinned (OpenSpec.ofChange octetsHexWrong)

/-- 'gangwaylaw01.OctetsBack': WHATEVER THE INPUT: true; the input reads as it did. -/
def octetsBackSpec : ChangeSpec := { name := "octetsBack", fn := fun _ => fun
  | [d1, d2, d3] => { results := [.lit (.bool true)], args := [d1, d2, d3] }
  | _ => none }
def octetsBackRow : OpenClaim := { program := "ytclffgkefbdcpaadoor", sum := "2e4327951800f5e2f0acd746030c24c1b1d74f7293bb5ecc4ba551fd4c382759", func := "gangway/gangwaylaw01.OctetsBack", spec := "octetsBack", inPlace := ["internal/reflectlite.ValueOf", "(internal/reflectlite.Value).Type", "(internal/reflectlite.Value).IsNil", "internal/reflectlite.TypeOf", "(internal/reflectlite.Value).Elem", "(internal/reflectlite.Value).Set", "internal/abi.NoEscape", "internal/bytealg.IndexByteString"], unfollowed := true, recurses := true, named := ["errors.errorType"], apart := false, laid := [("errors.errorType", laid_errors_errorType)] }
def OctetsBackSaid : Prop := octetsBackRow.holds Tryd.pinned (OpenSpec.ofChange octetsBackSpec)

/-- ITS FALSE NEIGHBOUR: 'it returns false'. Refute it at one input. -/
def octetsBackWrong : ChangeSpec := { name := "octetsBack", fn := fun _ => fun
  | [d1, d2, d3] => { results := [.lit (.bool false)], args := [d1, d2, d3] }
  | _ => none }
def OctetsBackWrongFalsely : Prop := octetsBackRow.holds Tryd.pinned (OpenSpec.ofChange octetsBackWrong)

/-- 'gangwaylaw01.OctetsParts': WHATEVER THE INPUT: true; the input reads as it did. -/
def octetsPartsSpec : ChangeSpec := { name := "octetsParts", fn := fun _ => fun
  | [d1, d2, d3] => { results := [.lit (.bool true)], args := [d1, d2, d3] }
  | _ => none }
def octetsPartsRow : OpenClaim := { program := "ytclffgkefbdcpaadoor", sum := "2e4327951800f5e2f0acd746030c24c1b1d74f7293bb5ecc4ba551fd4c382759", func := "gangway/gangwaylaw01.OctetsParts", spec := "octetsParts", inPlace := ["internal/reflectlite.ValueOf", "(internal/reflectlite.Value).Type", "(internal/reflectlite.Value).IsNil", "internal/reflectlite.TypeOf", "(internal/reflectlite.Value).Elem", "(internal/reflectlite.Value).Set", "internal/bytealg.IndexByteString", "internal/abi.NoEscape"], unfollowed := true, recurses := true, named := ["errors.errorType"], apart := false, laid := [("errors.errorType", laid_errors_errorType)] }
def OctetsPartsSaid : Prop := octetsPartsRow.holds Tryd.pinned (OpenSpec.ofChange octetsPartsSpec)

/-- ITS FALSE NEIGHBOUR: 'it returns false'. Refute it at one input. -/
def octetsPartsWrong : ChangeSpec := { name := "octetsParts", fn := fun _ => fun
  | [d1, d2, d3] => { results := [.lit (.bool false)], args := [d1, d2, d3] }
  | _ => none }
def OctetsPartsWrongFalsely : Prop := octetsPartsRow.holds Tryd.pinned (OpenSpec.ofChange octetsPartsWrong)

/-- 'gangwaylaw01.OctetsLess': WHATEVER THE INPUT: true; the input reads as it did. -/
def octetsLessSpec : ChangeSpec := { name := "octetsLess", fn := fun _ => fun
  | [d1, d2] => { results := [.lit (.bool true)], args := [d1, d2] }
  | _ => none }
def octetsLessRow : OpenClaim := { program := "ytclffgkefbdcpaadoor", sum := "2e4327951800f5e2f0acd746030c24c1b1d74f7293bb5ecc4ba551fd4c382759", func := "gangway/gangwaylaw01.OctetsLess", spec := "octetsLess", inPlace := ["internal/reflectlite.ValueOf", "(internal/reflectlite.Value).Type", "(internal/reflectlite.Value).IsNil", "internal/reflectlite.TypeOf", "(internal/reflectlite.Value).Elem", "(internal/reflectlite.Value).Set", "internal/bytealg.IndexByteString", "internal/abi.NoEscape"], unfollowed := true, recurses := true, named := ["errors.errorType"], apart := false, laid := [("errors.errorType", laid_errors_errorType)] }
def OctetsLessSaid : Prop := octetsLessRow.holds Tryd.pinned (OpenSpec.ofChange octetsLessSpec)

/-- ITS FALSE NEIGHBOUR: 'it returns false'. Refute it at one input. -/
def octetsLessWrong : ChangeSpec := { name := "octetsLess", fn := fun _ => fun
  | [d1, d2] => { results := [.lit (.bool false)], args := [d1, d2] }
  | _ => none }
def OctetsLessWrongFalsely : Prop := octetsLessRow.holds Tryd.pinned (OpenSpec.ofChange octetsLessWrong)

/-- 'gangwaylaw01.OctetsFar': WHATEVER THE INPUT: true; the input reads as it did. -/
def octetsFarSpec : ChangeSpec := { name := "octetsFar", fn := fun _ => fun
  | [d1, d2] => { results := [.lit (.bool true)], args := [d1, d2] }
  | _ => none }
def octetsFarRow : OpenClaim := { program := "ytclffgkefbdcpaadoor", sum := "2e4327951800f5e2f0acd746030c24c1b1d74f7293bb5ecc4ba551fd4c382759", func := "gangway/gangwaylaw01.OctetsFar", spec := "octetsFar", inPlace := ["internal/reflectlite.ValueOf", "(internal/reflectlite.Value).Type", "(internal/reflectlite.Value).IsNil", "internal/reflectlite.TypeOf", "(internal/reflectlite.Value).Elem", "(internal/reflectlite.Value).Set", "internal/bytealg.IndexByteString", "internal/abi.NoEscape"], unfollowed := true, recurses := true, named := ["errors.errorType"], apart := false, laid := [("errors.errorType", laid_errors_errorType)] }
def OctetsFarSaid : Prop := octetsFarRow.holds Tryd.pinned (OpenSpec.ofChange octetsFarSpec)

/-- ITS FALSE NEIGHBOUR: 'it returns false'. Refute it at one input. -/
def octetsFarWrong : ChangeSpec := { name := "octetsFar", fn := fun _ => fun
  | [d1, d2] => { results := [.lit (.bool false)], args := [d1, d2] }
  | _ => none }
def OctetsFarWrongFalsely : Prop := octetsFarRow.holds Tryd.pinned (OpenSpec.ofChange octetsFarWrong)

/- THE SECOND FORM. 'bulk': how many values and letters a reading holds, each counted each time it is reached (what is shared counts as often as it is met; a slice's spare places count too). A statement '..UptoSaid' is the law's where the arguments, and the package variables that the reading takes, are together of bulk at most 1048576: NARROWER than '..Said'. Prove '..Said' where nothing that the law and all that it calls make is longer than what came in: it says more and counts as full. Else prove '..UptoSaid'. A law counts once. -/
mutual
def uptoBulk {H : Type} : DataW H → Nat
  | .lit (.string bytes) => bytes.length + 1
  | .lit _ => 1
  | .nil => 1
  | .ptr d => uptoBulk d + 1
  | .slice elems spare => uptoBulkAll elems + uptoBulkAll spare + 1
  | .agg parts => uptoBulkAll parts + 1
  | .iface _ d => uptoBulk d + 1
  | .map entries => uptoBulkEntries entries + 1
  | .held _ => 1
def uptoBulkAll {H : Type} : List (DataW H) → Nat
  | [] => 0
  | d :: r => uptoBulk d + uptoBulkAll r
def uptoBulkEntries {H : Type} : List (Lit × DataW H) → Nat
  | [] => 0
  | x :: r => uptoBulkEntry x + uptoBulkEntries r
def uptoBulkEntry {H : Type} : Lit × DataW H → Nat
  | (.string bytes, d) => bytes.length + uptoBulk d + 1
  | (_, d) => uptoBulk d + 1
 end
def uptoSmall : (H : Type) → List (DataW H) → Bool := fun _ ds => decide (uptoBulkAll ds ≤ 1048576)
def OpenSpec.upto (s : _root_.Go.ChangeSpec) : _root_.Go.OpenSpec := { _root_.Go.OpenSpec.ofChange s with cond := some uptoSmall }

/-- 'gangwaylaw01.OctetsPut', WHERE WHAT IT READS IS OF BULK AT MOST 1048576: true; the input reads as it did. -/
def octetsPutUptoRow : OpenClaim := { program := "ytclffgkefbdcpaadoor", sum := "2e4327951800f5e2f0acd746030c24c1b1d74f7293bb5ecc4ba551fd4c382759", func := "gangway/gangwaylaw01.OctetsPut", spec := "octetsPut", inPlace := ["internal/reflectlite.ValueOf", "(internal/reflectlite.Value).Type", "(internal/reflectlite.Value).IsNil", "internal/reflectlite.TypeOf", "(internal/reflectlite.Value).Elem", "(internal/reflectlite.Value).Set", "internal/bytealg.IndexByteString", "internal/abi.NoEscape"], unfollowed := true, recurses := true, named := ["errors.errorType"], apart := false, laid := [("errors.errorType", laid_errors_errorType)], narrowed := true }
def OctetsPutUptoSaid : Prop := octetsPutUptoRow.holds Tryd.pinned (OpenSpec.upto octetsPutSpec)

/-- 'gangwaylaw01.OctetsHex', WHERE WHAT IT READS IS OF BULK AT MOST 1048576: true; the input reads as it did. -/
def octetsHexUptoRow : OpenClaim := { program := "ytclffgkefbdcpaadoor", sum := "2e4327951800f5e2f0acd746030c24c1b1d74f7293bb5ecc4ba551fd4c382759", func := "gangway/gangwaylaw01.OctetsHex", spec := "octetsHex", inPlace := ["internal/bytealg.IndexByteString", "internal/reflectlite.ValueOf", "(internal/reflectlite.Value).Type", "(internal/reflectlite.Value).IsNil", "internal/reflectlite.TypeOf", "(internal/reflectlite.Value).Elem", "(internal/reflectlite.Value).Set", "internal/abi.NoEscape"], unfollowed := true, recurses := true, named := ["errors.errorType"], apart := false, laid := [("errors.errorType", laid_errors_errorType)], narrowed := true }
def OctetsHexUptoSaid : Prop := octetsHexUptoRow.holds Tryd.pinned (OpenSpec.upto octetsHexSpec)

/-- 'gangwaylaw01.OctetsBack', WHERE WHAT IT READS IS OF BULK AT MOST 1048576: true; the input reads as it did. -/
def octetsBackUptoRow : OpenClaim := { program := "ytclffgkefbdcpaadoor", sum := "2e4327951800f5e2f0acd746030c24c1b1d74f7293bb5ecc4ba551fd4c382759", func := "gangway/gangwaylaw01.OctetsBack", spec := "octetsBack", inPlace := ["internal/reflectlite.ValueOf", "(internal/reflectlite.Value).Type", "(internal/reflectlite.Value).IsNil", "internal/reflectlite.TypeOf", "(internal/reflectlite.Value).Elem", "(internal/reflectlite.Value).Set", "internal/abi.NoEscape", "internal/bytealg.IndexByteString"], unfollowed := true, recurses := true, named := ["errors.errorType"], apart := false, laid := [("errors.errorType", laid_errors_errorType)], narrowed := true }
def OctetsBackUptoSaid : Prop := octetsBackUptoRow.holds Tryd.pinned (OpenSpec.upto octetsBackSpec)

/-- 'gangwaylaw01.OctetsParts', WHERE WHAT IT READS IS OF BULK AT MOST 1048576: true; the input reads as it did. -/
def octetsPartsUptoRow : OpenClaim := { program := "ytclffgkefbdcpaadoor", sum := "2e4327951800f5e2f0acd746030c24c1b1d74f7293bb5ecc4ba551fd4c382759", func := "gangway/gangwaylaw01.OctetsParts", spec := "octetsParts", inPlace := ["internal/reflectlite.ValueOf", "(internal/reflectlite.Value).Type", "(internal/reflectlite.Value).IsNil", "internal/reflectlite.TypeOf", "(internal/reflectlite.Value).Elem", "(internal/reflectlite.Value).Set", "internal/bytealg.IndexByteString", "internal/abi.NoEscape"], unfollowed := true, recurses := true, named := ["errors.errorType"], apart := false, laid := [("errors.errorType", laid_errors_errorType)], narrowed := true }
def OctetsPartsUptoSaid : Prop := octetsPartsUptoRow.holds Tryd.pinned (OpenSpec.upto octetsPartsSpec)

/-- 'gangwaylaw01.OctetsLess', WHERE WHAT IT READS IS OF BULK AT MOST 1048576: true; the input reads as it did. -/
def octetsLessUptoRow : OpenClaim := { program := "ytclffgkefbdcpaadoor", sum := "2e4327951800f5e2f0acd746030c24c1b1d74f7293bb5ecc4ba551fd4c382759", func := "gangway/gangwaylaw01.OctetsLess", spec := "octetsLess", inPlace := ["internal/reflectlite.ValueOf", "(internal/reflectlite.Value).Type", "(internal/reflectlite.Value).IsNil", "internal/reflectlite.TypeOf", "(internal/reflectlite.Value).Elem", "(internal/reflectlite.Value).Set", "internal/bytealg.IndexByteString", "internal/abi.NoEscape"], unfollowed := true, recurses := true, named := ["errors.errorType"], apart := false, laid := [("errors.errorType", laid_errors_errorType)], narrowed := true }
def OctetsLessUptoSaid : Prop := octetsLessUptoRow.holds Tryd.pinned (OpenSpec.upto octetsLessSpec)

/-- 'gangwaylaw01.OctetsFar', WHERE WHAT IT READS IS OF BULK AT MOST 1048576: true; the input reads as it did. -/
def octetsFarUptoRow : OpenClaim := { program := "ytclffgkefbdcpaadoor", sum := "2e4327951800f5e2f0acd746030c24c1b1d74f7293bb5ecc4ba551fd4c382759", func := "gangway/gangwaylaw01.OctetsFar", spec := "octetsFar", inPlace := ["internal/reflectlite.ValueOf", "(internal/reflectlite.Value).Type", "(internal/reflectlite.Value).IsNil", "internal/reflectlite.TypeOf", "(internal/reflectlite.Value).Elem", "(internal/reflectlite.Value).Set", "internal/bytealg.IndexByteString", "internal/abi.NoEscape"], unfollowed := true, recurses := true, named := ["errors.errorType"], apart := false, laid := [("errors.errorType", laid_errors_errorType)], narrowed := true }
def OctetsFarUptoSaid : Prop := octetsFarUptoRow.holds Tryd.pinned (OpenSpec.upto octetsFarSpec)

end Rows
end Go.Proofs.YtclffgkefbdcpaaDoor
