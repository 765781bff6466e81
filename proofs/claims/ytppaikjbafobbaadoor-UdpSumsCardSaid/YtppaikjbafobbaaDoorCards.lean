/-
  DERIVED. GIVEN WITH THE SEED: THE CARDS: each row of YtppaikjbafobbaaDoorRows.lean that lists a variable, with what it lists TIED to the program's text (the seventh form; the later family's looks); each row that meets fmt, with fmt's text TOLD by the authors' own Lean function (tested against real Go, not proved from fmt's source: count such statements apart). THE CARD IS WHAT COUNTS. Prove the row's statement (the work); the ties are given (YtppaikjbafobbaaDoorTie.lean); close each card by the builder's one call (the guide's Derived/Test/ToyasCard.lean, 'card_holds'). Laid BY PROGRAM, IN A SANDBOX (cutbox-door.mjs). By AI agents, Wed Nov 11 2026. No macro, syntax, notation, axiom, sorry.
-/
import Derived.Test.YtppaikjbafobbaaDoorRows
import GoSem.ClaimSeven
namespace Go.Proofs.YtppaikjbafobbaaDoor
namespace Rows

/-- THE TIED CARD OF 'gangwaylaw07.UdpBuilds'. -/
def udpBuildsCard : Claim7 := { stood := { row := udpBuildsRow, standIns := [], harness := (true, "e7d35866e253387d7183a0a65d8e79a719a87d80956221608822c6f4774fec2a"), looks := true }, kinds := [], alts := [], laidByText := true, laidKinds := [.handle], laidTests := true, laidLooks := .later }
def UdpBuildsCardSaid : Prop := Claim7.holds Tryd.pinned (.plain (OpenSpec.ofChange udpBuildsSpec)) udpBuildsCard

/-- THE TIED CARD OF 'gangwaylaw07.UdpParses'. -/
def udpParsesCard : Claim7 := { stood := { row := udpParsesRow, standIns := [], harness := (true, "e7d35866e253387d7183a0a65d8e79a719a87d80956221608822c6f4774fec2a"), looks := true }, kinds := [], alts := [], laidByText := true, laidKinds := [.handle], laidTests := true, laidLooks := .later }
def UdpParsesCardSaid : Prop := Claim7.holds Tryd.pinned (.plain (OpenSpec.ofChange udpParsesSpec)) udpParsesCard

/-- THE TIED CARD OF 'gangwaylaw07.UdpBack'. -/
def udpBackCard : Claim7 := { stood := { row := udpBackRow, standIns := [], harness := (true, "e7d35866e253387d7183a0a65d8e79a719a87d80956221608822c6f4774fec2a"), looks := true }, kinds := [], alts := [], laidByText := true, laidKinds := [.handle], laidTests := true, laidLooks := .later }
def UdpBackCardSaid : Prop := Claim7.holds Tryd.pinned (.plain (OpenSpec.ofChange udpBackSpec)) udpBackCard

/-- THE TIED CARD OF 'gangwaylaw07.UdpSums'. -/
def udpSumsCard : Claim7 := { stood := { row := udpSumsRow, standIns := [], harness := (true, "e7d35866e253387d7183a0a65d8e79a719a87d80956221608822c6f4774fec2a"), looks := true }, kinds := [], alts := [], laidByText := true, laidKinds := [.handle], laidTests := true, laidLooks := .later }
def UdpSumsCardSaid : Prop := Claim7.holds Tryd.pinned (.plain (OpenSpec.ofChange udpSumsSpec)) udpSumsCard

/-- THE TIED CARD OF 'gangwaylaw07.UdpSizes'. -/
def udpSizesCard : Claim7 := { stood := { row := udpSizesRow, standIns := [], harness := (true, "e7d35866e253387d7183a0a65d8e79a719a87d80956221608822c6f4774fec2a"), looks := true }, kinds := [], alts := [], laidByText := true, laidKinds := [.handle], laidTests := true, laidLooks := .later }
def UdpSizesCardSaid : Prop := Claim7.holds Tryd.pinned (.plain (OpenSpec.ofChange udpSizesSpec)) udpSizesCard

/-- THE SECOND FORM's CARD OF 'gangwaylaw07.UdpBuilds'. -/
def udpBuildsUptoCard : Claim7 := { stood := { row := udpBuildsUptoRow, standIns := [], harness := (true, "e7d35866e253387d7183a0a65d8e79a719a87d80956221608822c6f4774fec2a"), looks := true }, kinds := [], alts := [], laidByText := true, laidKinds := [.handle], laidTests := true, laidLooks := .later }
def UdpBuildsUptoCardSaid : Prop := Claim7.holds Tryd.pinned (.plain (OpenSpec.upto udpBuildsSpec)) udpBuildsUptoCard

/-- THE SECOND FORM's CARD OF 'gangwaylaw07.UdpParses'. -/
def udpParsesUptoCard : Claim7 := { stood := { row := udpParsesUptoRow, standIns := [], harness := (true, "e7d35866e253387d7183a0a65d8e79a719a87d80956221608822c6f4774fec2a"), looks := true }, kinds := [], alts := [], laidByText := true, laidKinds := [.handle], laidTests := true, laidLooks := .later }
def UdpParsesUptoCardSaid : Prop := Claim7.holds Tryd.pinned (.plain (OpenSpec.upto udpParsesSpec)) udpParsesUptoCard

/-- THE SECOND FORM's CARD OF 'gangwaylaw07.UdpBack'. -/
def udpBackUptoCard : Claim7 := { stood := { row := udpBackUptoRow, standIns := [], harness := (true, "e7d35866e253387d7183a0a65d8e79a719a87d80956221608822c6f4774fec2a"), looks := true }, kinds := [], alts := [], laidByText := true, laidKinds := [.handle], laidTests := true, laidLooks := .later }
def UdpBackUptoCardSaid : Prop := Claim7.holds Tryd.pinned (.plain (OpenSpec.upto udpBackSpec)) udpBackUptoCard

/-- THE SECOND FORM's CARD OF 'gangwaylaw07.UdpSums'. -/
def udpSumsUptoCard : Claim7 := { stood := { row := udpSumsUptoRow, standIns := [], harness := (true, "e7d35866e253387d7183a0a65d8e79a719a87d80956221608822c6f4774fec2a"), looks := true }, kinds := [], alts := [], laidByText := true, laidKinds := [.handle], laidTests := true, laidLooks := .later }
def UdpSumsUptoCardSaid : Prop := Claim7.holds Tryd.pinned (.plain (OpenSpec.upto udpSumsSpec)) udpSumsUptoCard

/-- THE SECOND FORM's CARD OF 'gangwaylaw07.UdpSizes'. -/
def udpSizesUptoCard : Claim7 := { stood := { row := udpSizesUptoRow, standIns := [], harness := (true, "e7d35866e253387d7183a0a65d8e79a719a87d80956221608822c6f4774fec2a"), looks := true }, kinds := [], alts := [], laidByText := true, laidKinds := [.handle], laidTests := true, laidLooks := .later }
def UdpSizesUptoCardSaid : Prop := Claim7.holds Tryd.pinned (.plain (OpenSpec.upto udpSizesSpec)) udpSizesUptoCard
end Rows
end Go.Proofs.YtppaikjbafobbaaDoor
