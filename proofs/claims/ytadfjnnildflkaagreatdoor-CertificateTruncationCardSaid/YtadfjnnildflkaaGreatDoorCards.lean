/-
  DERIVED. GIVEN WITH THE SEED: THE CARDS: each row of YtadfjnnildflkaaGreatDoorRows.lean that lists a variable, with what it lists TIED to the program's text (the seventh form; the later family's looks); each row that meets fmt, with fmt's text TOLD by the authors' own Lean function (tested against real Go, not proved from fmt's source: count such statements apart). THE CARD IS WHAT COUNTS. Prove the row's statement (the work); the ties are given (YtadfjnnildflkaaGreatDoorTie.lean); close each card by the builder's one call (the guide's Derived/Test/ToyasCard.lean, 'card_holds'). Laid BY PROGRAM, IN A SANDBOX (cutbox-door.mjs). By AI agents, Wed Nov 11 2026. No macro, syntax, notation, axiom, sorry.
-/
import Derived.Test.YtadfjnnildflkaaGreatDoorRows
import GoSem.ClaimSeven
namespace Go.Proofs.YtadfjnnildflkaaGreatDoor
namespace Rows

/-- THE TIED CARD OF 'attestorlaw22.CertificateRoundTrip'. -/
def certificateRoundTripCard : Claim7 := { stood := { row := certificateRoundTripRow, standIns := [], harness := (true, "d001b5dc50f49f4d974210bbfe996b63bf68a0100ccb98eb74365f588a91e40a"), looks := true }, kinds := [], alts := [], goes := true, laidByText := true, laidKinds := [.data, .data, .data, .sentinel, .sentinel, .data, .data, .data, .funcs, .mapped], laidTests := true, laidLooks := .later }
def CertificateRoundTripCardSaid : Prop := Claim7.holds Tryz.pinned (.plain (OpenSpec.ofChange certificateRoundTripSpec)) certificateRoundTripCard

/-- THE TIED CARD OF 'attestorlaw22.CertificateTruncation'. -/
def certificateTruncationCard : Claim7 := { stood := { row := certificateTruncationRow, standIns := [], harness := (true, "d001b5dc50f49f4d974210bbfe996b63bf68a0100ccb98eb74365f588a91e40a"), looks := true }, kinds := [], alts := [], goes := true, laidByText := true, laidKinds := [.data, .data, .data, .sentinel, .sentinel, .data, .data, .data, .funcs, .mapped], laidTests := true, laidLooks := .later }
def CertificateTruncationCardSaid : Prop := Claim7.holds Tryz.pinned (.plain (OpenSpec.ofChange certificateTruncationSpec)) certificateTruncationCard

/-- THE SECOND FORM's CARD OF 'attestorlaw22.CertificateRoundTrip'. -/
def certificateRoundTripUptoCard : Claim7 := { stood := { row := certificateRoundTripUptoRow, standIns := [], harness := (true, "d001b5dc50f49f4d974210bbfe996b63bf68a0100ccb98eb74365f588a91e40a"), looks := true }, kinds := [], alts := [], goes := true, laidByText := true, laidKinds := [.data, .data, .data, .sentinel, .sentinel, .data, .data, .data, .funcs, .mapped], laidTests := true, laidLooks := .later }
def CertificateRoundTripUptoCardSaid : Prop := Claim7.holds Tryz.pinned (.plain (OpenSpec.upto certificateRoundTripSpec)) certificateRoundTripUptoCard

/-- THE SECOND FORM's CARD OF 'attestorlaw22.CertificateTruncation'. -/
def certificateTruncationUptoCard : Claim7 := { stood := { row := certificateTruncationUptoRow, standIns := [], harness := (true, "d001b5dc50f49f4d974210bbfe996b63bf68a0100ccb98eb74365f588a91e40a"), looks := true }, kinds := [], alts := [], goes := true, laidByText := true, laidKinds := [.data, .data, .data, .sentinel, .sentinel, .data, .data, .data, .funcs, .mapped], laidTests := true, laidLooks := .later }
def CertificateTruncationUptoCardSaid : Prop := Claim7.holds Tryz.pinned (.plain (OpenSpec.upto certificateTruncationSpec)) certificateTruncationUptoCard
end Rows
end Go.Proofs.YtadfjnnildflkaaGreatDoor
