/-
  DERIVED. GIVEN WITH THE SEED: THE CARDS: each row of YthgdphfblajijaaDoorRows.lean that lists a variable, with what it lists TIED to the program's text (the seventh form; the later family's looks); each row that meets fmt, with fmt's text TOLD by the authors' own Lean function (tested against real Go, not proved from fmt's source: count such statements apart). THE CARD IS WHAT COUNTS. Prove the row's statement (the work); the ties are given (YthgdphfblajijaaDoorTie.lean); close each card by the builder's one call (the guide's Derived/Test/ToyasCard.lean, 'card_holds'). Laid BY PROGRAM, IN A SANDBOX (cutbox-door.mjs). By AI agents, Wed Nov 11 2026. No macro, syntax, notation, axiom, sorry.
-/
import Derived.Test.YthgdphfblajijaaDoorRows
import GoSem.ClaimSeven
namespace Go.Proofs.YthgdphfblajijaaDoor
namespace Rows

/-- THE TIED CARD OF 'gangwaylaw08.VxlanBuilds'. -/
def vxlanBuildsCard : Claim7 := { stood := { row := vxlanBuildsRow, standIns := [], harness := (true, "8e413ba61145c1ed79d10d7dd960f849ffad0d649015cc0a5b59af11fbdd4409"), looks := true }, kinds := [], alts := [], laidByText := true, laidKinds := [.handle], laidTests := true, laidLooks := .later }
def VxlanBuildsCardSaid : Prop := Claim7.holds Tryd.pinned (.plain (OpenSpec.ofChange vxlanBuildsSpec)) vxlanBuildsCard

/-- THE TIED CARD OF 'gangwaylaw08.VxlanHashes'. -/
def vxlanHashesCard : Claim7 := { stood := { row := vxlanHashesRow, standIns := [], harness := (true, "8e413ba61145c1ed79d10d7dd960f849ffad0d649015cc0a5b59af11fbdd4409"), looks := true }, kinds := [], alts := [], laidByText := true, laidKinds := [.handle], laidTests := true, laidLooks := .later }
def VxlanHashesCardSaid : Prop := Claim7.holds Tryd.pinned (.plain (OpenSpec.ofChange vxlanHashesSpec)) vxlanHashesCard

/-- THE TIED CARD OF 'gangwaylaw08.VxlanBack'. -/
def vxlanBackCard : Claim7 := { stood := { row := vxlanBackRow, standIns := [], harness := (true, "8e413ba61145c1ed79d10d7dd960f849ffad0d649015cc0a5b59af11fbdd4409"), looks := true }, kinds := [], alts := [], laidByText := true, laidKinds := [.handle], laidTests := true, laidLooks := .later }
def VxlanBackCardSaid : Prop := Claim7.holds Tryd.pinned (.plain (OpenSpec.ofChange vxlanBackSpec)) vxlanBackCard

/-- THE TIED CARD OF 'gangwaylaw08.VxlanPorts'. -/
def vxlanPortsCard : Claim7 := { stood := { row := vxlanPortsRow, standIns := [], harness := (true, "8e413ba61145c1ed79d10d7dd960f849ffad0d649015cc0a5b59af11fbdd4409"), looks := true }, kinds := [], alts := [], laidByText := true, laidKinds := [.handle], laidTests := true, laidLooks := .later }
def VxlanPortsCardSaid : Prop := Claim7.holds Tryd.pinned (.plain (OpenSpec.ofChange vxlanPortsSpec)) vxlanPortsCard

/-- THE TIED CARD OF 'gangwaylaw08.VxlanFlags'. -/
def vxlanFlagsCard : Claim7 := { stood := { row := vxlanFlagsRow, standIns := [], harness := (true, "8e413ba61145c1ed79d10d7dd960f849ffad0d649015cc0a5b59af11fbdd4409"), looks := true }, kinds := [], alts := [], laidByText := true, laidKinds := [.handle], laidTests := true, laidLooks := .later }
def VxlanFlagsCardSaid : Prop := Claim7.holds Tryd.pinned (.plain (OpenSpec.ofChange vxlanFlagsSpec)) vxlanFlagsCard

/-- THE SECOND FORM's CARD OF 'gangwaylaw08.VxlanBuilds'. -/
def vxlanBuildsUptoCard : Claim7 := { stood := { row := vxlanBuildsUptoRow, standIns := [], harness := (true, "8e413ba61145c1ed79d10d7dd960f849ffad0d649015cc0a5b59af11fbdd4409"), looks := true }, kinds := [], alts := [], laidByText := true, laidKinds := [.handle], laidTests := true, laidLooks := .later }
def VxlanBuildsUptoCardSaid : Prop := Claim7.holds Tryd.pinned (.plain (OpenSpec.upto vxlanBuildsSpec)) vxlanBuildsUptoCard

/-- THE SECOND FORM's CARD OF 'gangwaylaw08.VxlanHashes'. -/
def vxlanHashesUptoCard : Claim7 := { stood := { row := vxlanHashesUptoRow, standIns := [], harness := (true, "8e413ba61145c1ed79d10d7dd960f849ffad0d649015cc0a5b59af11fbdd4409"), looks := true }, kinds := [], alts := [], laidByText := true, laidKinds := [.handle], laidTests := true, laidLooks := .later }
def VxlanHashesUptoCardSaid : Prop := Claim7.holds Tryd.pinned (.plain (OpenSpec.upto vxlanHashesSpec)) vxlanHashesUptoCard

/-- THE SECOND FORM's CARD OF 'gangwaylaw08.VxlanBack'. -/
def vxlanBackUptoCard : Claim7 := { stood := { row := vxlanBackUptoRow, standIns := [], harness := (true, "8e413ba61145c1ed79d10d7dd960f849ffad0d649015cc0a5b59af11fbdd4409"), looks := true }, kinds := [], alts := [], laidByText := true, laidKinds := [.handle], laidTests := true, laidLooks := .later }
def VxlanBackUptoCardSaid : Prop := Claim7.holds Tryd.pinned (.plain (OpenSpec.upto vxlanBackSpec)) vxlanBackUptoCard

/-- THE SECOND FORM's CARD OF 'gangwaylaw08.VxlanPorts'. -/
def vxlanPortsUptoCard : Claim7 := { stood := { row := vxlanPortsUptoRow, standIns := [], harness := (true, "8e413ba61145c1ed79d10d7dd960f849ffad0d649015cc0a5b59af11fbdd4409"), looks := true }, kinds := [], alts := [], laidByText := true, laidKinds := [.handle], laidTests := true, laidLooks := .later }
def VxlanPortsUptoCardSaid : Prop := Claim7.holds Tryd.pinned (.plain (OpenSpec.upto vxlanPortsSpec)) vxlanPortsUptoCard

/-- THE SECOND FORM's CARD OF 'gangwaylaw08.VxlanFlags'. -/
def vxlanFlagsUptoCard : Claim7 := { stood := { row := vxlanFlagsUptoRow, standIns := [], harness := (true, "8e413ba61145c1ed79d10d7dd960f849ffad0d649015cc0a5b59af11fbdd4409"), looks := true }, kinds := [], alts := [], laidByText := true, laidKinds := [.handle], laidTests := true, laidLooks := .later }
def VxlanFlagsUptoCardSaid : Prop := Claim7.holds Tryd.pinned (.plain (OpenSpec.upto vxlanFlagsSpec)) vxlanFlagsUptoCard
end Rows
end Go.Proofs.YthgdphfblajijaaDoor
