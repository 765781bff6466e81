/-
  DERIVED. GIVEN WITH THE SEED: THE CARDS: each row of YtbkgaplldfilnaaDoorRows.lean that lists a variable, with what it lists TIED to the program's text (the seventh form; the later family's looks); each row that meets fmt, with fmt's text TOLD by the authors' own Lean function (tested against real Go, not proved from fmt's source: count such statements apart). THE CARD IS WHAT COUNTS. Prove the row's statement (the work); the ties are given (YtbkgaplldfilnaaDoorTie.lean); close each card by the builder's one call (the guide's Derived/Test/ToyasCard.lean, 'card_holds'). Laid BY PROGRAM, IN A SANDBOX (cutbox-door.mjs). By AI agents, Wed Nov 11 2026. No macro, syntax, notation, axiom, sorry.
-/
import Derived.Test.YtbkgaplldfilnaaDoorRows
import GoSem.ClaimSeven
namespace Go.Proofs.YtbkgaplldfilnaaDoor
namespace Rows

/-- THE TIED CARD OF 'gangwaylaw20.StationTakes'. -/
def stationTakesCard : Claim7 := { stood := { row := stationTakesRow, standIns := [], harness := (true, "933b5153e7978e13246ebc3be69fde969174cca4986595d6e081264af6ecc788"), looks := true }, kinds := [], alts := [], laidByText := true, laidKinds := [.handle], laidTests := true, laidLooks := .later }
def StationTakesCardSaid : Prop := Claim7.holds Tryd.pinned (.plain (OpenSpec.ofChange stationTakesSpec)) stationTakesCard

/-- THE TIED CARD OF 'gangwaylaw20.StationMakes'. -/
def stationMakesCard : Claim7 := { stood := { row := stationMakesRow, standIns := [], harness := (true, "933b5153e7978e13246ebc3be69fde969174cca4986595d6e081264af6ecc788"), looks := true }, kinds := [], alts := [], laidByText := true, laidKinds := [.handle], laidTests := true, laidLooks := .later }
def StationMakesCardSaid : Prop := Claim7.holds Tryd.pinned (.plain (OpenSpec.ofChange stationMakesSpec)) stationMakesCard

/-- THE TIED CARD OF 'gangwaylaw20.StationBack'. -/
def stationBackCard : Claim7 := { stood := { row := stationBackRow, standIns := [], harness := (true, "933b5153e7978e13246ebc3be69fde969174cca4986595d6e081264af6ecc788"), looks := true }, kinds := [], alts := [], laidByText := true, laidKinds := [.handle], laidTests := true, laidLooks := .later }
def StationBackCardSaid : Prop := Claim7.holds Tryd.pinned (.plain (OpenSpec.ofChange stationBackSpec)) stationBackCard

/-- THE TIED CARD OF 'gangwaylaw20.StationSpoilt'. -/
def stationSpoiltCard : Claim7 := { stood := { row := stationSpoiltRow, standIns := [], harness := (true, "933b5153e7978e13246ebc3be69fde969174cca4986595d6e081264af6ecc788"), looks := true }, kinds := [], alts := [], laidByText := true, laidKinds := [.handle], laidTests := true, laidLooks := .later }
def StationSpoiltCardSaid : Prop := Claim7.holds Tryd.pinned (.plain (OpenSpec.ofChange stationSpoiltSpec)) stationSpoiltCard

/-- THE TIED CARD OF 'gangwaylaw20.StationSizes'. -/
def stationSizesCard : Claim7 := { stood := { row := stationSizesRow, standIns := [], harness := (true, "933b5153e7978e13246ebc3be69fde969174cca4986595d6e081264af6ecc788"), looks := true }, kinds := [], alts := [], laidByText := true, laidKinds := [.handle], laidTests := true, laidLooks := .later }
def StationSizesCardSaid : Prop := Claim7.holds Tryd.pinned (.plain (OpenSpec.ofChange stationSizesSpec)) stationSizesCard

/-- THE SECOND FORM's CARD OF 'gangwaylaw20.StationTakes'. -/
def stationTakesUptoCard : Claim7 := { stood := { row := stationTakesUptoRow, standIns := [], harness := (true, "933b5153e7978e13246ebc3be69fde969174cca4986595d6e081264af6ecc788"), looks := true }, kinds := [], alts := [], laidByText := true, laidKinds := [.handle], laidTests := true, laidLooks := .later }
def StationTakesUptoCardSaid : Prop := Claim7.holds Tryd.pinned (.plain (OpenSpec.upto stationTakesSpec)) stationTakesUptoCard

/-- THE SECOND FORM's CARD OF 'gangwaylaw20.StationMakes'. -/
def stationMakesUptoCard : Claim7 := { stood := { row := stationMakesUptoRow, standIns := [], harness := (true, "933b5153e7978e13246ebc3be69fde969174cca4986595d6e081264af6ecc788"), looks := true }, kinds := [], alts := [], laidByText := true, laidKinds := [.handle], laidTests := true, laidLooks := .later }
def StationMakesUptoCardSaid : Prop := Claim7.holds Tryd.pinned (.plain (OpenSpec.upto stationMakesSpec)) stationMakesUptoCard

/-- THE SECOND FORM's CARD OF 'gangwaylaw20.StationBack'. -/
def stationBackUptoCard : Claim7 := { stood := { row := stationBackUptoRow, standIns := [], harness := (true, "933b5153e7978e13246ebc3be69fde969174cca4986595d6e081264af6ecc788"), looks := true }, kinds := [], alts := [], laidByText := true, laidKinds := [.handle], laidTests := true, laidLooks := .later }
def StationBackUptoCardSaid : Prop := Claim7.holds Tryd.pinned (.plain (OpenSpec.upto stationBackSpec)) stationBackUptoCard

/-- THE SECOND FORM's CARD OF 'gangwaylaw20.StationSpoilt'. -/
def stationSpoiltUptoCard : Claim7 := { stood := { row := stationSpoiltUptoRow, standIns := [], harness := (true, "933b5153e7978e13246ebc3be69fde969174cca4986595d6e081264af6ecc788"), looks := true }, kinds := [], alts := [], laidByText := true, laidKinds := [.handle], laidTests := true, laidLooks := .later }
def StationSpoiltUptoCardSaid : Prop := Claim7.holds Tryd.pinned (.plain (OpenSpec.upto stationSpoiltSpec)) stationSpoiltUptoCard

/-- THE SECOND FORM's CARD OF 'gangwaylaw20.StationSizes'. -/
def stationSizesUptoCard : Claim7 := { stood := { row := stationSizesUptoRow, standIns := [], harness := (true, "933b5153e7978e13246ebc3be69fde969174cca4986595d6e081264af6ecc788"), looks := true }, kinds := [], alts := [], laidByText := true, laidKinds := [.handle], laidTests := true, laidLooks := .later }
def StationSizesUptoCardSaid : Prop := Claim7.holds Tryd.pinned (.plain (OpenSpec.upto stationSizesSpec)) stationSizesUptoCard
end Rows
end Go.Proofs.YtbkgaplldfilnaaDoor
