/-
  DERIVED. GIVEN WITH THE SEED: THE CARDS: each row of YtclffgkefbdcpaaDoorRows.lean that lists a variable, with what it lists TIED to the program's text (the seventh form; the later family's looks); each row that meets fmt, with fmt's text TOLD by the authors' own Lean function (tested against real Go, not proved from fmt's source: count such statements apart). THE CARD IS WHAT COUNTS. Prove the row's statement (the work); the ties are given (YtclffgkefbdcpaaDoorTie.lean); close each card by the builder's one call (the guide's Derived/Test/ToyasCard.lean, 'card_holds'). Laid BY PROGRAM, IN A SANDBOX (cutbox-door.mjs). By AI agents, Wed Nov 11 2026. No macro, syntax, notation, axiom, sorry.
-/
import Derived.Test.YtclffgkefbdcpaaDoorRows
import GoSem.ClaimSeven
namespace Go.Proofs.YtclffgkefbdcpaaDoor
namespace Rows

/-- THE TIED CARD OF 'gangwaylaw01.OctetsPut'. -/
def octetsPutCard : Claim7 := { stood := { row := octetsPutRow, standIns := [], harness := (true, "e2f683cef7fc48e538e6a1f8e9ec2da90bfe38dabc85e51e312b7c248d31aadd"), looks := true }, kinds := [], alts := [], laidByText := true, laidKinds := [.handle], laidTests := true, laidLooks := .later }
def OctetsPutCardSaid : Prop := Claim7.holds Tryd.pinned (.plain (OpenSpec.ofChange octetsPutSpec)) octetsPutCard

/-- THE TIED CARD OF 'gangwaylaw01.OctetsHex'. -/
def octetsHexCard : Claim7 := { stood := { row := octetsHexRow, standIns := [], harness := (true, "e2f683cef7fc48e538e6a1f8e9ec2da90bfe38dabc85e51e312b7c248d31aadd"), looks := true }, kinds := [], alts := [], laidByText := true, laidKinds := [.handle], laidTests := true, laidLooks := .later }
def OctetsHexCardSaid : Prop := Claim7.holds Tryd.pinned (.plain (OpenSpec.ofChange octetsHexSpec)) octetsHexCard

/-- THE TIED CARD OF 'gangwaylaw01.OctetsBack'. -/
def octetsBackCard : Claim7 := { stood := { row := octetsBackRow, standIns := [], harness := (true, "e2f683cef7fc48e538e6a1f8e9ec2da90bfe38dabc85e51e312b7c248d31aadd"), looks := true }, kinds := [], alts := [], laidByText := true, laidKinds := [.handle], laidTests := true, laidLooks := .later }
def OctetsBackCardSaid : Prop := Claim7.holds Tryd.pinned (.plain (OpenSpec.ofChange octetsBackSpec)) octetsBackCard

/-- THE TIED CARD OF 'gangwaylaw01.OctetsParts'. -/
def octetsPartsCard : Claim7 := { stood := { row := octetsPartsRow, standIns := [], harness := (true, "e2f683cef7fc48e538e6a1f8e9ec2da90bfe38dabc85e51e312b7c248d31aadd"), looks := true }, kinds := [], alts := [], laidByText := true, laidKinds := [.handle], laidTests := true, laidLooks := .later }
def OctetsPartsCardSaid : Prop := Claim7.holds Tryd.pinned (.plain (OpenSpec.ofChange octetsPartsSpec)) octetsPartsCard

/-- THE TIED CARD OF 'gangwaylaw01.OctetsLess'. -/
def octetsLessCard : Claim7 := { stood := { row := octetsLessRow, standIns := [], harness := (true, "e2f683cef7fc48e538e6a1f8e9ec2da90bfe38dabc85e51e312b7c248d31aadd"), looks := true }, kinds := [], alts := [], laidByText := true, laidKinds := [.handle], laidTests := true, laidLooks := .later }
def OctetsLessCardSaid : Prop := Claim7.holds Tryd.pinned (.plain (OpenSpec.ofChange octetsLessSpec)) octetsLessCard

/-- THE TIED CARD OF 'gangwaylaw01.OctetsFar'. -/
def octetsFarCard : Claim7 := { stood := { row := octetsFarRow, standIns := [], harness := (true, "e2f683cef7fc48e538e6a1f8e9ec2da90bfe38dabc85e51e312b7c248d31aadd"), looks := true }, kinds := [], alts := [], laidByText := true, laidKinds := [.handle], laidTests := true, laidLooks := .later }
def OctetsFarCardSaid : Prop := Claim7.holds Tryd.pinned (.plain (OpenSpec.ofChange octetsFarSpec)) octetsFarCard

/-- THE SECOND FORM's CARD OF 'gangwaylaw01.OctetsPut'. -/
def octetsPutUptoCard : Claim7 := { stood := { row := octetsPutUptoRow, standIns := [], harness := (true, "e2f683cef7fc48e538e6a1f8e9ec2da90bfe38dabc85e51e312b7c248d31aadd"), looks := true }, kinds := [], alts := [], laidByText := true, laidKinds := [.handle], laidTests := true, laidLooks := .later }
def OctetsPutUptoCardSaid : Prop := Claim7.holds Tryd.pinned (.plain (OpenSpec.upto octetsPutSpec)) octetsPutUptoCard

/-- THE SECOND FORM's CARD OF 'gangwaylaw01.OctetsHex'. -/
def octetsHexUptoCard : Claim7 := { stood := { row := octetsHexUptoRow, standIns := [], harness := (true, "e2f683cef7fc48e538e6a1f8e9ec2da90bfe38dabc85e51e312b7c248d31aadd"), looks := true }, kinds := [], alts := [], laidByText := true, laidKinds := [.handle], laidTests := true, laidLooks := .later }
def OctetsHexUptoCardSaid : Prop := Claim7.holds Tryd.pinned (.plain (OpenSpec.upto octetsHexSpec)) octetsHexUptoCard

/-- THE SECOND FORM's CARD OF 'gangwaylaw01.OctetsBack'. -/
def octetsBackUptoCard : Claim7 := { stood := { row := octetsBackUptoRow, standIns := [], harness := (true, "e2f683cef7fc48e538e6a1f8e9ec2da90bfe38dabc85e51e312b7c248d31aadd"), looks := true }, kinds := [], alts := [], laidByText := true, laidKinds := [.handle], laidTests := true, laidLooks := .later }
def OctetsBackUptoCardSaid : Prop := Claim7.holds Tryd.pinned (.plain (OpenSpec.upto octetsBackSpec)) octetsBackUptoCard

/-- THE SECOND FORM's CARD OF 'gangwaylaw01.OctetsParts'. -/
def octetsPartsUptoCard : Claim7 := { stood := { row := octetsPartsUptoRow, standIns := [], harness := (true, "e2f683cef7fc48e538e6a1f8e9ec2da90bfe38dabc85e51e312b7c248d31aadd"), looks := true }, kinds := [], alts := [], laidByText := true, laidKinds := [.handle], laidTests := true, laidLooks := .later }
def OctetsPartsUptoCardSaid : Prop := Claim7.holds Tryd.pinned (.plain (OpenSpec.upto octetsPartsSpec)) octetsPartsUptoCard

/-- THE SECOND FORM's CARD OF 'gangwaylaw01.OctetsLess'. -/
def octetsLessUptoCard : Claim7 := { stood := { row := octetsLessUptoRow, standIns := [], harness := (true, "e2f683cef7fc48e538e6a1f8e9ec2da90bfe38dabc85e51e312b7c248d31aadd"), looks := true }, kinds := [], alts := [], laidByText := true, laidKinds := [.handle], laidTests := true, laidLooks := .later }
def OctetsLessUptoCardSaid : Prop := Claim7.holds Tryd.pinned (.plain (OpenSpec.upto octetsLessSpec)) octetsLessUptoCard

/-- THE SECOND FORM's CARD OF 'gangwaylaw01.OctetsFar'. -/
def octetsFarUptoCard : Claim7 := { stood := { row := octetsFarUptoRow, standIns := [], harness := (true, "e2f683cef7fc48e538e6a1f8e9ec2da90bfe38dabc85e51e312b7c248d31aadd"), looks := true }, kinds := [], alts := [], laidByText := true, laidKinds := [.handle], laidTests := true, laidLooks := .later }
def OctetsFarUptoCardSaid : Prop := Claim7.holds Tryd.pinned (.plain (OpenSpec.upto octetsFarSpec)) octetsFarUptoCard
end Rows
end Go.Proofs.YtclffgkefbdcpaaDoor
