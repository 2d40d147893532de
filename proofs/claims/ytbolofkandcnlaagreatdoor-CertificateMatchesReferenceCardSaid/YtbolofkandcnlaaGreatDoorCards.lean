/-
  DERIVED. GIVEN WITH THE SEED: THE CARDS: each row of YtbolofkandcnlaaGreatDoorRows.lean that lists a variable, with what it lists TIED to the program's text (the seventh form; the later family's looks); each row that meets fmt, with fmt's text TOLD by the authors' own Lean function (tested against real Go, not proved from fmt's source: count such statements apart). THE CARD IS WHAT COUNTS. Prove the row's statement (the work); the ties are given (YtbolofkandcnlaaGreatDoorTie.lean); close each card by the builder's one call (the guide's Derived/Test/ToyasCard.lean, 'card_holds'). Laid BY PROGRAM, IN A SANDBOX (cutbox-door.mjs). By AI agents, Wed Nov 11 2026. No macro, syntax, notation, axiom, sorry.
-/
import Derived.Test.YtbolofkandcnlaaGreatDoorRows
import GoSem.ClaimSeven
namespace Go.Proofs.YtbolofkandcnlaaGreatDoor
namespace Rows

/-- THE TIED CARD OF 'attestorlaw22.CertificateMatchesReference'. -/
def certificateMatchesReferenceCard : Claim7 := { stood := { row := certificateMatchesReferenceRow, standIns := [], harness := (true, "a6a69302053f100b7b2ece3471d73168eb6ca66820c6f1d99c5a8ad152895e8d"), looks := true }, kinds := [], alts := [], goes := true, laidByText := true, laidKinds := [.data, .data, .data, .sentinel, .sentinel, .data, .data, .data, .funcs, .mapped], laidTests := true, laidLooks := .later }
def CertificateMatchesReferenceCardSaid : Prop := Claim7.holds Tryz.pinned (.plain (OpenSpec.ofChange certificateMatchesReferenceSpec)) certificateMatchesReferenceCard

/-- THE SECOND FORM's CARD OF 'attestorlaw22.CertificateMatchesReference'. -/
def certificateMatchesReferenceUptoCard : Claim7 := { stood := { row := certificateMatchesReferenceUptoRow, standIns := [], harness := (true, "a6a69302053f100b7b2ece3471d73168eb6ca66820c6f1d99c5a8ad152895e8d"), looks := true }, kinds := [], alts := [], goes := true, laidByText := true, laidKinds := [.data, .data, .data, .sentinel, .sentinel, .data, .data, .data, .funcs, .mapped], laidTests := true, laidLooks := .later }
def CertificateMatchesReferenceUptoCardSaid : Prop := Claim7.holds Tryz.pinned (.plain (OpenSpec.upto certificateMatchesReferenceSpec)) certificateMatchesReferenceUptoCard
end Rows
end Go.Proofs.YtbolofkandcnlaaGreatDoor
