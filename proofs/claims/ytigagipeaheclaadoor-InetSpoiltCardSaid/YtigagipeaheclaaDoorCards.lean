/-
  DERIVED. GIVEN WITH THE SEED: THE CARDS: each row of YtigagipeaheclaaDoorRows.lean that lists a variable, with what it lists TIED to the program's text (the seventh form; the later family's looks); each row that meets fmt, with fmt's text TOLD by the authors' own Lean function (tested against real Go, not proved from fmt's source: count such statements apart). THE CARD IS WHAT COUNTS. Prove the row's statement (the work); the ties are given (YtigagipeaheclaaDoorTie.lean); close each card by the builder's one call (the guide's Derived/Test/ToyasCard.lean, 'card_holds'). Laid BY PROGRAM, IN A SANDBOX (cutbox-door.mjs). By AI agents, Wed Nov 11 2026. No macro, syntax, notation, axiom, sorry.
-/
import Derived.Test.YtigagipeaheclaaDoorRows
import GoSem.ClaimSeven
namespace Go.Proofs.YtigagipeaheclaaDoor
namespace Rows

/-- THE TIED CARD OF 'gangwaylaw06.InetBuilds'. -/
def inetBuildsCard : Claim7 := { stood := { row := inetBuildsRow, standIns := [], harness := (true, "edddd1a2c9804f713a49806cf671fbf31e3c046f1ff0e6ff97f6614baa94a12a"), looks := true }, kinds := [], alts := [], laidByText := true, laidKinds := [.handle], laidTests := true, laidLooks := .later }
def InetBuildsCardSaid : Prop := Claim7.holds Tryd.pinned (.plain (OpenSpec.ofChange inetBuildsSpec)) inetBuildsCard

/-- THE TIED CARD OF 'gangwaylaw06.InetParses'. -/
def inetParsesCard : Claim7 := { stood := { row := inetParsesRow, standIns := [], harness := (true, "edddd1a2c9804f713a49806cf671fbf31e3c046f1ff0e6ff97f6614baa94a12a"), looks := true }, kinds := [], alts := [], laidByText := true, laidKinds := [.handle], laidTests := true, laidLooks := .later }
def InetParsesCardSaid : Prop := Claim7.holds Tryd.pinned (.plain (OpenSpec.ofChange inetParsesSpec)) inetParsesCard

/-- THE TIED CARD OF 'gangwaylaw06.InetBack'. -/
def inetBackCard : Claim7 := { stood := { row := inetBackRow, standIns := [], harness := (true, "edddd1a2c9804f713a49806cf671fbf31e3c046f1ff0e6ff97f6614baa94a12a"), looks := true }, kinds := [], alts := [], laidByText := true, laidKinds := [.handle], laidTests := true, laidLooks := .later }
def InetBackCardSaid : Prop := Claim7.holds Tryd.pinned (.plain (OpenSpec.ofChange inetBackSpec)) inetBackCard

/-- THE TIED CARD OF 'gangwaylaw06.InetOlder'. -/
def inetOlderCard : Claim7 := { stood := { row := inetOlderRow, standIns := [], harness := (true, "edddd1a2c9804f713a49806cf671fbf31e3c046f1ff0e6ff97f6614baa94a12a"), looks := true }, kinds := [], alts := [], laidByText := true, laidKinds := [.handle], laidTests := true, laidLooks := .later }
def InetOlderCardSaid : Prop := Claim7.holds Tryd.pinned (.plain (OpenSpec.ofChange inetOlderSpec)) inetOlderCard

/-- THE TIED CARD OF 'gangwaylaw06.InetSpoilt'. -/
def inetSpoiltCard : Claim7 := { stood := { row := inetSpoiltRow, standIns := [], harness := (true, "edddd1a2c9804f713a49806cf671fbf31e3c046f1ff0e6ff97f6614baa94a12a"), looks := true }, kinds := [], alts := [], laidByText := true, laidKinds := [.handle], laidTests := true, laidLooks := .later }
def InetSpoiltCardSaid : Prop := Claim7.holds Tryd.pinned (.plain (OpenSpec.ofChange inetSpoiltSpec)) inetSpoiltCard

/-- THE TIED CARD OF 'gangwaylaw06.InetSizes'. -/
def inetSizesCard : Claim7 := { stood := { row := inetSizesRow, standIns := [], harness := (true, "edddd1a2c9804f713a49806cf671fbf31e3c046f1ff0e6ff97f6614baa94a12a"), looks := true }, kinds := [], alts := [], laidByText := true, laidKinds := [.handle], laidTests := true, laidLooks := .later }
def InetSizesCardSaid : Prop := Claim7.holds Tryd.pinned (.plain (OpenSpec.ofChange inetSizesSpec)) inetSizesCard

/-- THE SECOND FORM's CARD OF 'gangwaylaw06.InetBuilds'. -/
def inetBuildsUptoCard : Claim7 := { stood := { row := inetBuildsUptoRow, standIns := [], harness := (true, "edddd1a2c9804f713a49806cf671fbf31e3c046f1ff0e6ff97f6614baa94a12a"), looks := true }, kinds := [], alts := [], laidByText := true, laidKinds := [.handle], laidTests := true, laidLooks := .later }
def InetBuildsUptoCardSaid : Prop := Claim7.holds Tryd.pinned (.plain (OpenSpec.upto inetBuildsSpec)) inetBuildsUptoCard

/-- THE SECOND FORM's CARD OF 'gangwaylaw06.InetParses'. -/
def inetParsesUptoCard : Claim7 := { stood := { row := inetParsesUptoRow, standIns := [], harness := (true, "edddd1a2c9804f713a49806cf671fbf31e3c046f1ff0e6ff97f6614baa94a12a"), looks := true }, kinds := [], alts := [], laidByText := true, laidKinds := [.handle], laidTests := true, laidLooks := .later }
def InetParsesUptoCardSaid : Prop := Claim7.holds Tryd.pinned (.plain (OpenSpec.upto inetParsesSpec)) inetParsesUptoCard

/-- THE SECOND FORM's CARD OF 'gangwaylaw06.InetBack'. -/
def inetBackUptoCard : Claim7 := { stood := { row := inetBackUptoRow, standIns := [], harness := (true, "edddd1a2c9804f713a49806cf671fbf31e3c046f1ff0e6ff97f6614baa94a12a"), looks := true }, kinds := [], alts := [], laidByText := true, laidKinds := [.handle], laidTests := true, laidLooks := .later }
def InetBackUptoCardSaid : Prop := Claim7.holds Tryd.pinned (.plain (OpenSpec.upto inetBackSpec)) inetBackUptoCard

/-- THE SECOND FORM's CARD OF 'gangwaylaw06.InetOlder'. -/
def inetOlderUptoCard : Claim7 := { stood := { row := inetOlderUptoRow, standIns := [], harness := (true, "edddd1a2c9804f713a49806cf671fbf31e3c046f1ff0e6ff97f6614baa94a12a"), looks := true }, kinds := [], alts := [], laidByText := true, laidKinds := [.handle], laidTests := true, laidLooks := .later }
def InetOlderUptoCardSaid : Prop := Claim7.holds Tryd.pinned (.plain (OpenSpec.upto inetOlderSpec)) inetOlderUptoCard

/-- THE SECOND FORM's CARD OF 'gangwaylaw06.InetSpoilt'. -/
def inetSpoiltUptoCard : Claim7 := { stood := { row := inetSpoiltUptoRow, standIns := [], harness := (true, "edddd1a2c9804f713a49806cf671fbf31e3c046f1ff0e6ff97f6614baa94a12a"), looks := true }, kinds := [], alts := [], laidByText := true, laidKinds := [.handle], laidTests := true, laidLooks := .later }
def InetSpoiltUptoCardSaid : Prop := Claim7.holds Tryd.pinned (.plain (OpenSpec.upto inetSpoiltSpec)) inetSpoiltUptoCard

/-- THE SECOND FORM's CARD OF 'gangwaylaw06.InetSizes'. -/
def inetSizesUptoCard : Claim7 := { stood := { row := inetSizesUptoRow, standIns := [], harness := (true, "edddd1a2c9804f713a49806cf671fbf31e3c046f1ff0e6ff97f6614baa94a12a"), looks := true }, kinds := [], alts := [], laidByText := true, laidKinds := [.handle], laidTests := true, laidLooks := .later }
def InetSizesUptoCardSaid : Prop := Claim7.holds Tryd.pinned (.plain (OpenSpec.upto inetSizesSpec)) inetSizesUptoCard
end Rows
end Go.Proofs.YtigagipeaheclaaDoor
