/-
  DERIVED. GIVEN WITH THE SEED: THE CARDS: each row of YtbfjlhjfpmgplaaDoorRows.lean that lists a variable, with what it lists TIED to the program's text (the seventh form; the later family's looks); each row that meets fmt, with fmt's text TOLD by the authors' own Lean function (tested against real Go, not proved from fmt's source: count such statements apart). THE CARD IS WHAT COUNTS. Prove the row's statement (the work); the ties are given (YtbfjlhjfpmgplaaDoorTie.lean); close each card by the builder's one call (the guide's Derived/Test/ToyasCard.lean, 'card_holds'). Laid BY PROGRAM, IN A SANDBOX (cutbox-door.mjs). By AI agents, Wed Nov 11 2026. No macro, syntax, notation, axiom, sorry.
-/
import Derived.Test.YtbfjlhjfpmgplaaDoorRows
import GoSem.ClaimSeven
namespace Go.Proofs.YtbfjlhjfpmgplaaDoor
namespace Rows

/-- THE TIED CARD OF 'gangwaylaw09.BpduBuilds'. -/
def bpduBuildsCard : Claim7 := { stood := { row := bpduBuildsRow, standIns := [], harness := (true, "4bf8cb18284c29c6fb4f7504051a888372762077133e2a5f26c1b1fd45a3ff05"), looks := true }, kinds := [], alts := [], laidByText := true, laidKinds := [.handle], laidTests := true, laidLooks := .later }
def BpduBuildsCardSaid : Prop := Claim7.holds Tryd.pinned (.plain (OpenSpec.ofChange bpduBuildsSpec)) bpduBuildsCard

/-- THE TIED CARD OF 'gangwaylaw09.BpduParses'. -/
def bpduParsesCard : Claim7 := { stood := { row := bpduParsesRow, standIns := [], harness := (true, "4bf8cb18284c29c6fb4f7504051a888372762077133e2a5f26c1b1fd45a3ff05"), looks := true }, kinds := [], alts := [], laidByText := true, laidKinds := [.handle], laidTests := true, laidLooks := .later }
def BpduParsesCardSaid : Prop := Claim7.holds Tryd.pinned (.plain (OpenSpec.ofChange bpduParsesSpec)) bpduParsesCard

/-- THE TIED CARD OF 'gangwaylaw09.BpduFrames'. -/
def bpduFramesCard : Claim7 := { stood := { row := bpduFramesRow, standIns := [], harness := (true, "4bf8cb18284c29c6fb4f7504051a888372762077133e2a5f26c1b1fd45a3ff05"), looks := true }, kinds := [], alts := [], laidByText := true, laidKinds := [.handle], laidTests := true, laidLooks := .later }
def BpduFramesCardSaid : Prop := Claim7.holds Tryd.pinned (.plain (OpenSpec.ofChange bpduFramesSpec)) bpduFramesCard

/-- THE TIED CARD OF 'gangwaylaw09.BpduBack'. -/
def bpduBackCard : Claim7 := { stood := { row := bpduBackRow, standIns := [], harness := (true, "4bf8cb18284c29c6fb4f7504051a888372762077133e2a5f26c1b1fd45a3ff05"), looks := true }, kinds := [], alts := [], laidByText := true, laidKinds := [.handle], laidTests := true, laidLooks := .later }
def BpduBackCardSaid : Prop := Claim7.holds Tryd.pinned (.plain (OpenSpec.ofChange bpduBackSpec)) bpduBackCard

/-- THE TIED CARD OF 'gangwaylaw09.BpduSizes'. -/
def bpduSizesCard : Claim7 := { stood := { row := bpduSizesRow, standIns := [], harness := (true, "4bf8cb18284c29c6fb4f7504051a888372762077133e2a5f26c1b1fd45a3ff05"), looks := true }, kinds := [], alts := [], laidByText := true, laidKinds := [.handle], laidTests := true, laidLooks := .later }
def BpduSizesCardSaid : Prop := Claim7.holds Tryd.pinned (.plain (OpenSpec.ofChange bpduSizesSpec)) bpduSizesCard

/-- THE SECOND FORM's CARD OF 'gangwaylaw09.BpduBuilds'. -/
def bpduBuildsUptoCard : Claim7 := { stood := { row := bpduBuildsUptoRow, standIns := [], harness := (true, "4bf8cb18284c29c6fb4f7504051a888372762077133e2a5f26c1b1fd45a3ff05"), looks := true }, kinds := [], alts := [], laidByText := true, laidKinds := [.handle], laidTests := true, laidLooks := .later }
def BpduBuildsUptoCardSaid : Prop := Claim7.holds Tryd.pinned (.plain (OpenSpec.upto bpduBuildsSpec)) bpduBuildsUptoCard

/-- THE SECOND FORM's CARD OF 'gangwaylaw09.BpduParses'. -/
def bpduParsesUptoCard : Claim7 := { stood := { row := bpduParsesUptoRow, standIns := [], harness := (true, "4bf8cb18284c29c6fb4f7504051a888372762077133e2a5f26c1b1fd45a3ff05"), looks := true }, kinds := [], alts := [], laidByText := true, laidKinds := [.handle], laidTests := true, laidLooks := .later }
def BpduParsesUptoCardSaid : Prop := Claim7.holds Tryd.pinned (.plain (OpenSpec.upto bpduParsesSpec)) bpduParsesUptoCard

/-- THE SECOND FORM's CARD OF 'gangwaylaw09.BpduFrames'. -/
def bpduFramesUptoCard : Claim7 := { stood := { row := bpduFramesUptoRow, standIns := [], harness := (true, "4bf8cb18284c29c6fb4f7504051a888372762077133e2a5f26c1b1fd45a3ff05"), looks := true }, kinds := [], alts := [], laidByText := true, laidKinds := [.handle], laidTests := true, laidLooks := .later }
def BpduFramesUptoCardSaid : Prop := Claim7.holds Tryd.pinned (.plain (OpenSpec.upto bpduFramesSpec)) bpduFramesUptoCard

/-- THE SECOND FORM's CARD OF 'gangwaylaw09.BpduBack'. -/
def bpduBackUptoCard : Claim7 := { stood := { row := bpduBackUptoRow, standIns := [], harness := (true, "4bf8cb18284c29c6fb4f7504051a888372762077133e2a5f26c1b1fd45a3ff05"), looks := true }, kinds := [], alts := [], laidByText := true, laidKinds := [.handle], laidTests := true, laidLooks := .later }
def BpduBackUptoCardSaid : Prop := Claim7.holds Tryd.pinned (.plain (OpenSpec.upto bpduBackSpec)) bpduBackUptoCard

/-- THE SECOND FORM's CARD OF 'gangwaylaw09.BpduSizes'. -/
def bpduSizesUptoCard : Claim7 := { stood := { row := bpduSizesUptoRow, standIns := [], harness := (true, "4bf8cb18284c29c6fb4f7504051a888372762077133e2a5f26c1b1fd45a3ff05"), looks := true }, kinds := [], alts := [], laidByText := true, laidKinds := [.handle], laidTests := true, laidLooks := .later }
def BpduSizesUptoCardSaid : Prop := Claim7.holds Tryd.pinned (.plain (OpenSpec.upto bpduSizesSpec)) bpduSizesUptoCard
end Rows
end Go.Proofs.YtbfjlhjfpmgplaaDoor
