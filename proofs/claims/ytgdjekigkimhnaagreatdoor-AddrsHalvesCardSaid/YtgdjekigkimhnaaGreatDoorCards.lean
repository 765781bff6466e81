/-
  DERIVED. GIVEN WITH THE SEED: THE CARDS: each row of YtgdjekigkimhnaaGreatDoorRows.lean that lists a variable, with what it lists TIED to the program's text (the seventh form; the later family's looks); each row that meets fmt, with fmt's text TOLD by the authors' own Lean function (tested against real Go, not proved from fmt's source: count such statements apart). THE CARD IS WHAT COUNTS. Prove the row's statement (the work); the ties are given (YtgdjekigkimhnaaGreatDoorTie.lean); close each card by the builder's one call (the guide's Derived/Test/ToyasCard.lean, 'card_holds'). Laid BY PROGRAM, IN A SANDBOX (cutbox-door.mjs). By AI agents, Wed Nov 11 2026. No macro, syntax, notation, axiom, sorry.
-/
import Derived.Test.YtgdjekigkimhnaaGreatDoorRows
import GoSem.ClaimSeven
namespace Go.Proofs.YtgdjekigkimhnaaGreatDoor
namespace Rows

/-- THE TIED CARD OF 'gangwaylaw02.AddrsTexts'. -/
def addrsTextsCard : Claim7 := { stood := { row := addrsTextsRow, standIns := [], harness := (true, "a13a47a9c04e325ab42eb66462a1202cc72c486f59e50aa75988d60b901eb40c"), looks := true }, kinds := [], alts := [], laidByText := true, laidKinds := [.data, .data, .data, .data, .handle, .sentinel, .sentinel, .pinned], laidTests := true, laidLooks := .later }
def AddrsTextsCardSaid : Prop := Claim7.holds Tryz.pinned (.plain (OpenSpec.ofChange addrsTextsSpec)) addrsTextsCard

/-- THE TIED CARD OF 'gangwaylaw02.AddrsKinds'. -/
def addrsKindsCard : Claim7 := { stood := { row := addrsKindsRow, standIns := [], harness := (true, "a13a47a9c04e325ab42eb66462a1202cc72c486f59e50aa75988d60b901eb40c"), looks := true }, kinds := [], alts := [], laidByText := true, laidKinds := [.data, .data, .data, .data, .handle, .sentinel, .sentinel, .pinned], laidTests := true, laidLooks := .later }
def AddrsKindsCardSaid : Prop := Claim7.holds Tryz.pinned (.plain (OpenSpec.ofChange addrsKindsSpec)) addrsKindsCard

/-- THE TIED CARD OF 'gangwaylaw02.AddrsBack'. -/
def addrsBackCard : Claim7 := { stood := { row := addrsBackRow, standIns := [], harness := (true, "a13a47a9c04e325ab42eb66462a1202cc72c486f59e50aa75988d60b901eb40c"), looks := true }, kinds := [], alts := [], laidByText := true, laidKinds := [.data, .data, .data, .data, .handle, .sentinel, .sentinel, .pinned], laidTests := true, laidLooks := .later }
def AddrsBackCardSaid : Prop := Claim7.holds Tryz.pinned (.plain (OpenSpec.ofChange addrsBackSpec)) addrsBackCard

/-- THE TIED CARD OF 'gangwaylaw02.AddrsNets'. -/
def addrsNetsCard : Claim7 := { stood := { row := addrsNetsRow, standIns := [], harness := (true, "a13a47a9c04e325ab42eb66462a1202cc72c486f59e50aa75988d60b901eb40c"), looks := true }, kinds := [], alts := [], laidByText := true, laidKinds := [.data, .data, .data, .data, .handle, .sentinel, .sentinel, .pinned], laidTests := true, laidLooks := .later }
def AddrsNetsCardSaid : Prop := Claim7.holds Tryz.pinned (.plain (OpenSpec.ofChange addrsNetsSpec)) addrsNetsCard

/-- THE TIED CARD OF 'gangwaylaw02.AddrsHalves'. -/
def addrsHalvesCard : Claim7 := { stood := { row := addrsHalvesRow, standIns := [], harness := (true, "a13a47a9c04e325ab42eb66462a1202cc72c486f59e50aa75988d60b901eb40c"), looks := true }, kinds := [], alts := [], laidByText := true, laidKinds := [.data, .data, .data, .data, .handle, .sentinel, .sentinel, .pinned], laidTests := true, laidLooks := .later }
def AddrsHalvesCardSaid : Prop := Claim7.holds Tryz.pinned (.plain (OpenSpec.ofChange addrsHalvesSpec)) addrsHalvesCard

/-- THE TIED CARD OF 'gangwaylaw02.AddrsOwn'. -/
def addrsOwnCard : Claim7 := { stood := { row := addrsOwnRow, standIns := [], harness := (true, "a13a47a9c04e325ab42eb66462a1202cc72c486f59e50aa75988d60b901eb40c"), looks := true }, kinds := [], alts := [], laidByText := true, laidKinds := [.data, .data, .data, .data, .handle, .sentinel, .sentinel, .pinned], laidTests := true, laidLooks := .later }
def AddrsOwnCardSaid : Prop := Claim7.holds Tryz.pinned (.plain (OpenSpec.ofChange addrsOwnSpec)) addrsOwnCard

/-- THE SECOND FORM's CARD OF 'gangwaylaw02.AddrsTexts'. -/
def addrsTextsUptoCard : Claim7 := { stood := { row := addrsTextsUptoRow, standIns := [], harness := (true, "a13a47a9c04e325ab42eb66462a1202cc72c486f59e50aa75988d60b901eb40c"), looks := true }, kinds := [], alts := [], laidByText := true, laidKinds := [.data, .data, .data, .data, .handle, .sentinel, .sentinel, .pinned], laidTests := true, laidLooks := .later }
def AddrsTextsUptoCardSaid : Prop := Claim7.holds Tryz.pinned (.plain (OpenSpec.upto addrsTextsSpec)) addrsTextsUptoCard

/-- THE SECOND FORM's CARD OF 'gangwaylaw02.AddrsKinds'. -/
def addrsKindsUptoCard : Claim7 := { stood := { row := addrsKindsUptoRow, standIns := [], harness := (true, "a13a47a9c04e325ab42eb66462a1202cc72c486f59e50aa75988d60b901eb40c"), looks := true }, kinds := [], alts := [], laidByText := true, laidKinds := [.data, .data, .data, .data, .handle, .sentinel, .sentinel, .pinned], laidTests := true, laidLooks := .later }
def AddrsKindsUptoCardSaid : Prop := Claim7.holds Tryz.pinned (.plain (OpenSpec.upto addrsKindsSpec)) addrsKindsUptoCard

/-- THE SECOND FORM's CARD OF 'gangwaylaw02.AddrsBack'. -/
def addrsBackUptoCard : Claim7 := { stood := { row := addrsBackUptoRow, standIns := [], harness := (true, "a13a47a9c04e325ab42eb66462a1202cc72c486f59e50aa75988d60b901eb40c"), looks := true }, kinds := [], alts := [], laidByText := true, laidKinds := [.data, .data, .data, .data, .handle, .sentinel, .sentinel, .pinned], laidTests := true, laidLooks := .later }
def AddrsBackUptoCardSaid : Prop := Claim7.holds Tryz.pinned (.plain (OpenSpec.upto addrsBackSpec)) addrsBackUptoCard

/-- THE SECOND FORM's CARD OF 'gangwaylaw02.AddrsNets'. -/
def addrsNetsUptoCard : Claim7 := { stood := { row := addrsNetsUptoRow, standIns := [], harness := (true, "a13a47a9c04e325ab42eb66462a1202cc72c486f59e50aa75988d60b901eb40c"), looks := true }, kinds := [], alts := [], laidByText := true, laidKinds := [.data, .data, .data, .data, .handle, .sentinel, .sentinel, .pinned], laidTests := true, laidLooks := .later }
def AddrsNetsUptoCardSaid : Prop := Claim7.holds Tryz.pinned (.plain (OpenSpec.upto addrsNetsSpec)) addrsNetsUptoCard

/-- THE SECOND FORM's CARD OF 'gangwaylaw02.AddrsHalves'. -/
def addrsHalvesUptoCard : Claim7 := { stood := { row := addrsHalvesUptoRow, standIns := [], harness := (true, "a13a47a9c04e325ab42eb66462a1202cc72c486f59e50aa75988d60b901eb40c"), looks := true }, kinds := [], alts := [], laidByText := true, laidKinds := [.data, .data, .data, .data, .handle, .sentinel, .sentinel, .pinned], laidTests := true, laidLooks := .later }
def AddrsHalvesUptoCardSaid : Prop := Claim7.holds Tryz.pinned (.plain (OpenSpec.upto addrsHalvesSpec)) addrsHalvesUptoCard

/-- THE SECOND FORM's CARD OF 'gangwaylaw02.AddrsOwn'. -/
def addrsOwnUptoCard : Claim7 := { stood := { row := addrsOwnUptoRow, standIns := [], harness := (true, "a13a47a9c04e325ab42eb66462a1202cc72c486f59e50aa75988d60b901eb40c"), looks := true }, kinds := [], alts := [], laidByText := true, laidKinds := [.data, .data, .data, .data, .handle, .sentinel, .sentinel, .pinned], laidTests := true, laidLooks := .later }
def AddrsOwnUptoCardSaid : Prop := Claim7.holds Tryz.pinned (.plain (OpenSpec.upto addrsOwnSpec)) addrsOwnUptoCard
end Rows
end Go.Proofs.YtgdjekigkimhnaaGreatDoor
