/-
  NARROWER THAN 'FOR EVERY INPUT', by the rows' own cells (each row's printed sentence says how): VxlanBuilds: laid · VxlanHashes: laid · VxlanBack: laid · VxlanPorts: laid · VxlanFlags: laid.
  DERIVED. THE GIVEN ROWS OF THIS SEAT. 5 by the template 'for every input the law returns true; each argument reads behind the call as it read before'; 0 by the template 'total and deterministic' (their statements: YthgdphfblajijaaDoorTotals.lean).
  GIVEN WITH THE SEED: the statements are not yours to turn. If you find one false, say at which input.
  Laid BY PROGRAM, IN A SANDBOX (cutbox-rows.mjs): the forced cells as the released guide's own fill.sh prints them over the translation 1f83896beb96ea2a… (all of the seat's roots in one cut). By AI agents, Wed Nov 11 2026. No macro, syntax, notation, axiom, sorry.
-/
import Derived.Test.YthgdphfblajijaaDoorChecked
import GoSem.Claim
import GoSem.ClaimJoined
import GoSem.ClaimMapViews
import Derived.JoinedTies
import Derived.KernelRfl
namespace Go.Proofs.YthgdphfblajijaaDoor
/- THE CELL 'sum', in the pinned program and in every row, IS THE sha256 OF THE DUMP (.gsa) THAT YthgdphfblajijaaDoorProg.lean LOADS. Nothing in Lean hashes anything: it is a label: what it is worth is what the hold of that sum in a sandbox is worth. -/
noncomputable def Tryd.pinned : Pinned := { name := "ythgdphfblajijaadoor", sum := "1f83896beb96ea2adaff85ffe5bcffe7ba1aacf474ff7aaea578698089942844", checked := Tryd.checked }
namespace Rows
def none {H : Type} : Left H := { results := [], args := [] }

/- WHAT THE LISTED PACKAGE-LEVEL VARIABLES READ AS WHEN THE CALL BEGINS. Each datum BY PROGRAM (the guide's laid-datum.mjs) off the statement by which the dump's own 'gosem.cut.vars' lays the variable. In a bare row this is a premise. The card (YthgdphfblajijaaDoorCards.lean) ties it to the program's text. -/
def laid_errors_errorType {H : Type} : DataW H := .iface "internal/reflectlite.rtype" (.agg [.ptr (.lit (.string [101, 114, 114, 111, 114]))])

/-- 'gangwaylaw08.VxlanBuilds': WHATEVER THE INPUT: true; the input reads as it did. -/
def vxlanBuildsSpec : ChangeSpec := { name := "vxlanBuilds", fn := fun _ => fun
  | [d1, d2] => { results := [.lit (.bool true)], args := [d1, d2] }
  | _ => none }
def vxlanBuildsRow : OpenClaim := { program := "ythgdphfblajijaadoor", sum := "1f83896beb96ea2adaff85ffe5bcffe7ba1aacf474ff7aaea578698089942844", func := "gangway/gangwaylaw08.VxlanBuilds", spec := "vxlanBuilds", inPlace := ["internal/reflectlite.ValueOf", "(internal/reflectlite.Value).Type", "(internal/reflectlite.Value).IsNil", "internal/reflectlite.TypeOf", "(internal/reflectlite.Value).Elem", "(internal/reflectlite.Value).Set"], unfollowed := true, recurses := true, named := ["errors.errorType"], apart := false, laid := [("errors.errorType", laid_errors_errorType)] }
def VxlanBuildsSaid : Prop := vxlanBuildsRow.holds Tryd.pinned (OpenSpec.ofChange vxlanBuildsSpec)

/-- ITS FALSE NEIGHBOUR: 'it returns false'. Refute it at one input. -/
def vxlanBuildsWrong : ChangeSpec := { name := "vxlanBuilds", fn := fun _ => fun
  | [d1, d2] => { results := [.lit (.bool false)], args := [d1, d2] }
  | _ => none }
def VxlanBuildsWrongFalsely : Prop := vxlanBuildsRow.holds Tryd.pinned (OpenSpec.ofChange vxlanBuildsWrong)

/-- 'gangwaylaw08.VxlanHashes': WHATEVER THE INPUT: true; the input reads as it did. -/
def vxlanHashesSpec : ChangeSpec := { name := "vxlanHashes", fn := fun _ => fun
  | [d] => { results := [.lit (.bool true)], args := [d] }
  | _ => none }
def vxlanHashesRow : OpenClaim := { program := "ythgdphfblajijaadoor", sum := "1f83896beb96ea2adaff85ffe5bcffe7ba1aacf474ff7aaea578698089942844", func := "gangway/gangwaylaw08.VxlanHashes", spec := "vxlanHashes", inPlace := ["internal/reflectlite.ValueOf", "(internal/reflectlite.Value).Type", "(internal/reflectlite.Value).IsNil", "internal/reflectlite.TypeOf", "(internal/reflectlite.Value).Elem", "(internal/reflectlite.Value).Set"], unfollowed := true, recurses := true, named := ["errors.errorType"], apart := false, laid := [("errors.errorType", laid_errors_errorType)] }
def VxlanHashesSaid : Prop := vxlanHashesRow.holds Tryd.pinned (OpenSpec.ofChange vxlanHashesSpec)

/-- ITS FALSE NEIGHBOUR: 'it returns false'. Refute it at one input. -/
def vxlanHashesWrong : ChangeSpec := { name := "vxlanHashes", fn := fun _ => fun
  | [d] => { results := [.lit (.bool false)], args := [d] }
  | _ => none }
def VxlanHashesWrongFalsely : Prop := vxlanHashesRow.holds Tryd.pinned (OpenSpec.ofChange vxlanHashesWrong)

/-- 'gangwaylaw08.VxlanBack': WHATEVER THE INPUT: true; the input reads as it did. -/
def vxlanBackSpec : ChangeSpec := { name := "vxlanBack", fn := fun _ => fun
  | [d1, d2] => { results := [.lit (.bool true)], args := [d1, d2] }
  | _ => none }
def vxlanBackRow : OpenClaim := { program := "ythgdphfblajijaadoor", sum := "1f83896beb96ea2adaff85ffe5bcffe7ba1aacf474ff7aaea578698089942844", func := "gangway/gangwaylaw08.VxlanBack", spec := "vxlanBack", inPlace := ["internal/reflectlite.ValueOf", "(internal/reflectlite.Value).Type", "(internal/reflectlite.Value).IsNil", "internal/reflectlite.TypeOf", "(internal/reflectlite.Value).Elem", "(internal/reflectlite.Value).Set"], unfollowed := true, recurses := true, named := ["errors.errorType"], apart := false, laid := [("errors.errorType", laid_errors_errorType)] }
def VxlanBackSaid : Prop := vxlanBackRow.holds Tryd.pinned (OpenSpec.ofChange vxlanBackSpec)

/-- ITS FALSE NEIGHBOUR: 'it returns false'. Refute it at one input. -/
def vxlanBackWrong : ChangeSpec := { name := "vxlanBack", fn := fun _ => fun
  | [d1, d2] => { results := [.lit (.bool false)], args := [d1, d2] }
  | _ => none }
def VxlanBackWrongFalsely : Prop := vxlanBackRow.holds Tryd.pinned (OpenSpec.ofChange vxlanBackWrong)

/-- 'gangwaylaw08.VxlanPorts': WHATEVER THE INPUT: true; the input reads as it did. -/
def vxlanPortsSpec : ChangeSpec := { name := "vxlanPorts", fn := fun _ => fun
  | [d1, d2] => { results := [.lit (.bool true)], args := [d1, d2] }
  | _ => none }
def vxlanPortsRow : OpenClaim := { program := "ythgdphfblajijaadoor", sum := "1f83896beb96ea2adaff85ffe5bcffe7ba1aacf474ff7aaea578698089942844", func := "gangway/gangwaylaw08.VxlanPorts", spec := "vxlanPorts", inPlace := ["internal/reflectlite.ValueOf", "(internal/reflectlite.Value).Type", "(internal/reflectlite.Value).IsNil", "internal/reflectlite.TypeOf", "(internal/reflectlite.Value).Elem", "(internal/reflectlite.Value).Set"], unfollowed := true, recurses := true, named := ["errors.errorType"], apart := false, laid := [("errors.errorType", laid_errors_errorType)] }
def VxlanPortsSaid : Prop := vxlanPortsRow.holds Tryd.pinned (OpenSpec.ofChange vxlanPortsSpec)

/-- ITS FALSE NEIGHBOUR: 'it returns false'. Refute it at one input. -/
def vxlanPortsWrong : ChangeSpec := { name := "vxlanPorts", fn := fun _ => fun
  | [d1, d2] => { results := [.lit (.bool false)], args := [d1, d2] }
  | _ => none }
def VxlanPortsWrongFalsely : Prop := vxlanPortsRow.holds Tryd.pinned (OpenSpec.ofChange vxlanPortsWrong)

/-- 'gangwaylaw08.VxlanFlags': WHATEVER THE INPUT: true; the input reads as it did. -/
def vxlanFlagsSpec : ChangeSpec := { name := "vxlanFlags", fn := fun _ => fun
  | [d] => { results := [.lit (.bool true)], args := [d] }
  | _ => none }
def vxlanFlagsRow : OpenClaim := { program := "ythgdphfblajijaadoor", sum := "1f83896beb96ea2adaff85ffe5bcffe7ba1aacf474ff7aaea578698089942844", func := "gangway/gangwaylaw08.VxlanFlags", spec := "vxlanFlags", inPlace := ["internal/reflectlite.ValueOf", "(internal/reflectlite.Value).Type", "(internal/reflectlite.Value).IsNil", "internal/reflectlite.TypeOf", "(internal/reflectlite.Value).Elem", "(internal/reflectlite.Value).Set"], unfollowed := true, recurses := true, named := ["errors.errorType"], apart := false, laid := [("errors.errorType", laid_errors_errorType)] }
def VxlanFlagsSaid : Prop := vxlanFlagsRow.holds Tryd.pinned (OpenSpec.ofChange vxlanFlagsSpec)

/-- ITS FALSE NEIGHBOUR: 'it returns false'. Refute it at one input. -/
def vxlanFlagsWrong : ChangeSpec := { name := "vxlanFlags", fn := fun _ => fun
  | [d] => { results := [.lit (.bool false)], args := [d] }
  | _ => none }
def VxlanFlagsWrongFalsely : Prop := vxlanFlagsRow.holds Tryd.pinned (OpenSpec.ofChange vxlanFlagsWrong)

/- THE SECOND FORM. 'bulk': how many values and letters a reading holds, each counted each time it is reached (what is shared counts as often as it is met; a slice's spare places count too). A statement '..UptoSaid' is the law's where the arguments, and the package variables that the reading takes, are together of bulk at most 1048576: NARROWER than '..Said'. Prove '..Said' where nothing that the law and all that it calls make is longer than what came in: it says more and counts as full. Else prove '..UptoSaid'. A law counts once. -/
mutual
def uptoBulk {H : Type} : DataW H → Nat
  | .lit (.string bytes) => bytes.length + 1
  | .lit _ => 1
  | .nil => 1
  | .ptr d => uptoBulk d + 1
  | .slice elems spare => uptoBulkAll elems + uptoBulkAll spare + 1
  | .agg parts => uptoBulkAll parts + 1
  | .iface _ d => uptoBulk d + 1
  | .map entries => uptoBulkEntries entries + 1
  | .held _ => 1
def uptoBulkAll {H : Type} : List (DataW H) → Nat
  | [] => 0
  | d :: r => uptoBulk d + uptoBulkAll r
def uptoBulkEntries {H : Type} : List (Lit × DataW H) → Nat
  | [] => 0
  | x :: r => uptoBulkEntry x + uptoBulkEntries r
def uptoBulkEntry {H : Type} : Lit × DataW H → Nat
  | (.string bytes, d) => bytes.length + uptoBulk d + 1
  | (_, d) => uptoBulk d + 1
 end
def uptoSmall : (H : Type) → List (DataW H) → Bool := fun _ ds => decide (uptoBulkAll ds ≤ 1048576)
def OpenSpec.upto (s : _root_.Go.ChangeSpec) : _root_.Go.OpenSpec := { _root_.Go.OpenSpec.ofChange s with cond := some uptoSmall }

/-- 'gangwaylaw08.VxlanBuilds', WHERE WHAT IT READS IS OF BULK AT MOST 1048576: true; the input reads as it did. -/
def vxlanBuildsUptoRow : OpenClaim := { program := "ythgdphfblajijaadoor", sum := "1f83896beb96ea2adaff85ffe5bcffe7ba1aacf474ff7aaea578698089942844", func := "gangway/gangwaylaw08.VxlanBuilds", spec := "vxlanBuilds", inPlace := ["internal/reflectlite.ValueOf", "(internal/reflectlite.Value).Type", "(internal/reflectlite.Value).IsNil", "internal/reflectlite.TypeOf", "(internal/reflectlite.Value).Elem", "(internal/reflectlite.Value).Set"], unfollowed := true, recurses := true, named := ["errors.errorType"], apart := false, laid := [("errors.errorType", laid_errors_errorType)], narrowed := true }
def VxlanBuildsUptoSaid : Prop := vxlanBuildsUptoRow.holds Tryd.pinned (OpenSpec.upto vxlanBuildsSpec)

/-- 'gangwaylaw08.VxlanHashes', WHERE WHAT IT READS IS OF BULK AT MOST 1048576: true; the input reads as it did. -/
def vxlanHashesUptoRow : OpenClaim := { program := "ythgdphfblajijaadoor", sum := "1f83896beb96ea2adaff85ffe5bcffe7ba1aacf474ff7aaea578698089942844", func := "gangway/gangwaylaw08.VxlanHashes", spec := "vxlanHashes", inPlace := ["internal/reflectlite.ValueOf", "(internal/reflectlite.Value).Type", "(internal/reflectlite.Value).IsNil", "internal/reflectlite.TypeOf", "(internal/reflectlite.Value).Elem", "(internal/reflectlite.Value).Set"], unfollowed := true, recurses := true, named := ["errors.errorType"], apart := false, laid := [("errors.errorType", laid_errors_errorType)], narrowed := true }
def VxlanHashesUptoSaid : Prop := vxlanHashesUptoRow.holds Tryd.pinned (OpenSpec.upto vxlanHashesSpec)

/-- 'gangwaylaw08.VxlanBack', WHERE WHAT IT READS IS OF BULK AT MOST 1048576: true; the input reads as it did. -/
def vxlanBackUptoRow : OpenClaim := { program := "ythgdphfblajijaadoor", sum := "1f83896beb96ea2adaff85ffe5bcffe7ba1aacf474ff7aaea578698089942844", func := "gangway/gangwaylaw08.VxlanBack", spec := "vxlanBack", inPlace := ["internal/reflectlite.ValueOf", "(internal/reflectlite.Value).Type", "(internal/reflectlite.Value).IsNil", "internal/reflectlite.TypeOf", "(internal/reflectlite.Value).Elem", "(internal/reflectlite.Value).Set"], unfollowed := true, recurses := true, named := ["errors.errorType"], apart := false, laid := [("errors.errorType", laid_errors_errorType)], narrowed := true }
def VxlanBackUptoSaid : Prop := vxlanBackUptoRow.holds Tryd.pinned (OpenSpec.upto vxlanBackSpec)

/-- 'gangwaylaw08.VxlanPorts', WHERE WHAT IT READS IS OF BULK AT MOST 1048576: true; the input reads as it did. -/
def vxlanPortsUptoRow : OpenClaim := { program := "ythgdphfblajijaadoor", sum := "1f83896beb96ea2adaff85ffe5bcffe7ba1aacf474ff7aaea578698089942844", func := "gangway/gangwaylaw08.VxlanPorts", spec := "vxlanPorts", inPlace := ["internal/reflectlite.ValueOf", "(internal/reflectlite.Value).Type", "(internal/reflectlite.Value).IsNil", "internal/reflectlite.TypeOf", "(internal/reflectlite.Value).Elem", "(internal/reflectlite.Value).Set"], unfollowed := true, recurses := true, named := ["errors.errorType"], apart := false, laid := [("errors.errorType", laid_errors_errorType)], narrowed := true }
def VxlanPortsUptoSaid : Prop := vxlanPortsUptoRow.holds Tryd.pinned (OpenSpec.upto vxlanPortsSpec)

/-- 'gangwaylaw08.VxlanFlags', WHERE WHAT IT READS IS OF BULK AT MOST 1048576: true; the input reads as it did. -/
def vxlanFlagsUptoRow : OpenClaim := { program := "ythgdphfblajijaadoor", sum := "1f83896beb96ea2adaff85ffe5bcffe7ba1aacf474ff7aaea578698089942844", func := "gangway/gangwaylaw08.VxlanFlags", spec := "vxlanFlags", inPlace := ["internal/reflectlite.ValueOf", "(internal/reflectlite.Value).Type", "(internal/reflectlite.Value).IsNil", "internal/reflectlite.TypeOf", "(internal/reflectlite.Value).Elem", "(internal/reflectlite.Value).Set"], unfollowed := true, recurses := true, named := ["errors.errorType"], apart := false, laid := [("errors.errorType", laid_errors_errorType)], narrowed := true }
def VxlanFlagsUptoSaid : Prop := vxlanFlagsUptoRow.holds Tryd.pinned (OpenSpec.upto vxlanFlagsSpec)

end Rows
end Go.Proofs.YthgdphfblajijaaDoor
