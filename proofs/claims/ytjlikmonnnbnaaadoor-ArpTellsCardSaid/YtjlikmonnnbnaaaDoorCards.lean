/-
  DERIVED. GIVEN WITH THE SEED: THE CARDS: each row of YtjlikmonnnbnaaaDoorRows.lean that lists a variable, with what it lists TIED to the program's text (the seventh form; the later family's looks); each row that meets fmt, with fmt's text TOLD by the authors' own Lean function (tested against real Go, not proved from fmt's source: count such statements apart). THE CARD IS WHAT COUNTS. Prove the row's statement (the work); the ties are given (YtjlikmonnnbnaaaDoorTie.lean); close each card by the builder's one call (the guide's Derived/Test/ToyasCard.lean, 'card_holds'). Laid BY PROGRAM, IN A SANDBOX (cutbox-door.mjs). By AI agents, Wed Nov 11 2026. No macro, syntax, notation, axiom, sorry.
-/
import Derived.Test.YtjlikmonnnbnaaaDoorRows
import GoSem.ClaimSeven
namespace Go.Proofs.YtjlikmonnnbnaaaDoor
namespace Rows

/-- THE TIED CARD OF 'gangwaylaw05.ArpBuilds'. -/
def arpBuildsCard : Claim7 := { stood := { row := arpBuildsRow, standIns := [], harness := (true, "e09a48099ce95892c445878250a0df1b302ca049f125f16632da7d8b289ea8f8"), looks := true }, kinds := [], alts := [], laidByText := true, laidKinds := [.handle], laidTests := true, laidLooks := .later }
def ArpBuildsCardSaid : Prop := Claim7.holds Tryd.pinned (.plain (OpenSpec.ofChange arpBuildsSpec)) arpBuildsCard

/-- THE TIED CARD OF 'gangwaylaw05.ArpBack'. -/
def arpBackCard : Claim7 := { stood := { row := arpBackRow, standIns := [], harness := (true, "e09a48099ce95892c445878250a0df1b302ca049f125f16632da7d8b289ea8f8"), looks := true }, kinds := [], alts := [], laidByText := true, laidKinds := [.handle], laidTests := true, laidLooks := .later }
def ArpBackCardSaid : Prop := Claim7.holds Tryd.pinned (.plain (OpenSpec.ofChange arpBackSpec)) arpBackCard

/-- THE TIED CARD OF 'gangwaylaw05.ArpBytes'. -/
def arpBytesCard : Claim7 := { stood := { row := arpBytesRow, standIns := [], harness := (true, "e09a48099ce95892c445878250a0df1b302ca049f125f16632da7d8b289ea8f8"), looks := true }, kinds := [], alts := [], laidByText := true, laidKinds := [.handle], laidTests := true, laidLooks := .later }
def ArpBytesCardSaid : Prop := Claim7.holds Tryd.pinned (.plain (OpenSpec.ofChange arpBytesSpec)) arpBytesCard

/-- THE TIED CARD OF 'gangwaylaw05.ArpTells'. -/
def arpTellsCard : Claim7 := { stood := { row := arpTellsRow, standIns := [], harness := (true, "e09a48099ce95892c445878250a0df1b302ca049f125f16632da7d8b289ea8f8"), looks := true }, kinds := [], alts := [], laidByText := true, laidKinds := [.handle], laidTests := true, laidLooks := .later }
def ArpTellsCardSaid : Prop := Claim7.holds Tryd.pinned (.plain (OpenSpec.ofChange arpTellsSpec)) arpTellsCard

/-- THE SECOND FORM's CARD OF 'gangwaylaw05.ArpBuilds'. -/
def arpBuildsUptoCard : Claim7 := { stood := { row := arpBuildsUptoRow, standIns := [], harness := (true, "e09a48099ce95892c445878250a0df1b302ca049f125f16632da7d8b289ea8f8"), looks := true }, kinds := [], alts := [], laidByText := true, laidKinds := [.handle], laidTests := true, laidLooks := .later }
def ArpBuildsUptoCardSaid : Prop := Claim7.holds Tryd.pinned (.plain (OpenSpec.upto arpBuildsSpec)) arpBuildsUptoCard

/-- THE SECOND FORM's CARD OF 'gangwaylaw05.ArpBack'. -/
def arpBackUptoCard : Claim7 := { stood := { row := arpBackUptoRow, standIns := [], harness := (true, "e09a48099ce95892c445878250a0df1b302ca049f125f16632da7d8b289ea8f8"), looks := true }, kinds := [], alts := [], laidByText := true, laidKinds := [.handle], laidTests := true, laidLooks := .later }
def ArpBackUptoCardSaid : Prop := Claim7.holds Tryd.pinned (.plain (OpenSpec.upto arpBackSpec)) arpBackUptoCard

/-- THE SECOND FORM's CARD OF 'gangwaylaw05.ArpBytes'. -/
def arpBytesUptoCard : Claim7 := { stood := { row := arpBytesUptoRow, standIns := [], harness := (true, "e09a48099ce95892c445878250a0df1b302ca049f125f16632da7d8b289ea8f8"), looks := true }, kinds := [], alts := [], laidByText := true, laidKinds := [.handle], laidTests := true, laidLooks := .later }
def ArpBytesUptoCardSaid : Prop := Claim7.holds Tryd.pinned (.plain (OpenSpec.upto arpBytesSpec)) arpBytesUptoCard

/-- THE SECOND FORM's CARD OF 'gangwaylaw05.ArpTells'. -/
def arpTellsUptoCard : Claim7 := { stood := { row := arpTellsUptoRow, standIns := [], harness := (true, "e09a48099ce95892c445878250a0df1b302ca049f125f16632da7d8b289ea8f8"), looks := true }, kinds := [], alts := [], laidByText := true, laidKinds := [.handle], laidTests := true, laidLooks := .later }
def ArpTellsUptoCardSaid : Prop := Claim7.holds Tryd.pinned (.plain (OpenSpec.upto arpTellsSpec)) arpTellsUptoCard
end Rows
end Go.Proofs.YtjlikmonnnbnaaaDoor
