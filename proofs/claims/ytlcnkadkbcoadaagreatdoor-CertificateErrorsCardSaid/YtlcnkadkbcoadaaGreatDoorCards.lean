/-
  DERIVED. GIVEN WITH THE SEED: THE CARDS: each row of YtlcnkadkbcoadaaGreatDoorRows.lean that lists a variable, with what it lists TIED to the program's text (the seventh form; the later family's looks); each row that meets fmt, with fmt's text TOLD by the authors' own Lean function (tested against real Go, not proved from fmt's source: count such statements apart). THE CARD IS WHAT COUNTS. Prove the row's statement (the work); the ties are given (YtlcnkadkbcoadaaGreatDoorTie.lean); close each card by the builder's one call (the guide's Derived/Test/ToyasCard.lean, 'card_holds'). Laid BY PROGRAM, IN A SANDBOX (cutbox-door.mjs). By AI agents, Wed Nov 11 2026. No macro, syntax, notation, axiom, sorry.
-/
import Derived.Test.YtlcnkadkbcoadaaGreatDoorRows
import GoSem.ClaimSeven
namespace Go.Proofs.YtlcnkadkbcoadaaGreatDoor
namespace Rows

/-- THE TIED CARD OF 'attestorlaw22.CertificateErrors'. -/
def certificateErrorsCard : Claim7 := { stood := { row := certificateErrorsRow, standIns := [], harness := (true, "a05c775c30606622c48a80f3e031db1282e7a8c5724b95238d737b7663d81257"), looks := true }, kinds := [], alts := [], goes := true, laidByText := true, laidKinds := [.data, .data, .data, .sentinel, .sentinel, .data, .data, .data, .funcs, .mapped], laidTests := true, laidLooks := .later }
def CertificateErrorsCardSaid : Prop := Claim7.holds Tryz.pinned (.plain (OpenSpec.ofChange certificateErrorsSpec)) certificateErrorsCard

/-- THE SECOND FORM's CARD OF 'attestorlaw22.CertificateErrors'. -/
def certificateErrorsUptoCard : Claim7 := { stood := { row := certificateErrorsUptoRow, standIns := [], harness := (true, "a05c775c30606622c48a80f3e031db1282e7a8c5724b95238d737b7663d81257"), looks := true }, kinds := [], alts := [], goes := true, laidByText := true, laidKinds := [.data, .data, .data, .sentinel, .sentinel, .data, .data, .data, .funcs, .mapped], laidTests := true, laidLooks := .later }
def CertificateErrorsUptoCardSaid : Prop := Claim7.holds Tryz.pinned (.plain (OpenSpec.upto certificateErrorsSpec)) certificateErrorsUptoCard
end Rows
end Go.Proofs.YtlcnkadkbcoadaaGreatDoor
