/-
  DERIVED. GIVEN WITH THE SEED: THE CARDS: each row of YtlggfbglpcegoaaGreatDoorRows.lean that lists a variable, with what it lists TIED to the program's text (the seventh form; the later family's looks); each row that meets fmt, with fmt's text TOLD by the authors' own Lean function (tested against real Go, not proved from fmt's source: count such statements apart). THE CARD IS WHAT COUNTS. Prove the row's statement (the work); the ties are given (YtlggfbglpcegoaaGreatDoorTie.lean); close each card by the builder's one call (the guide's Derived/Test/ToyasCard.lean, 'card_holds'). Laid BY PROGRAM, IN A SANDBOX (cutbox-door.mjs). By AI agents, Wed Nov 11 2026. No macro, syntax, notation, axiom, sorry.
-/
import Derived.Test.YtlggfbglpcegoaaGreatDoorRows
import GoSem.ClaimSeven
namespace Go.Proofs.YtlggfbglpcegoaaGreatDoor
namespace Rows

/-- THE TIED CARD OF 'attestorlaw22.CertificateStart'. -/
def certificateStartCard : Claim7 := { stood := { row := certificateStartRow, standIns := [], harness := (true, "4164fb49ed0682ce239af4a22f38d32c0ee9b0e510f9849f3904c605b68dbb4d"), looks := true }, kinds := [], alts := [], goes := true, laidByText := true, laidKinds := [.data, .data, .data, .sentinel, .sentinel, .data, .data, .data, .funcs, .mapped], laidTests := true, laidLooks := .later }
def CertificateStartCardSaid : Prop := Claim7.holds Tryz.pinned (.plain (OpenSpec.ofChange certificateStartSpec)) certificateStartCard

/-- THE SECOND FORM's CARD OF 'attestorlaw22.CertificateStart'. -/
def certificateStartUptoCard : Claim7 := { stood := { row := certificateStartUptoRow, standIns := [], harness := (true, "4164fb49ed0682ce239af4a22f38d32c0ee9b0e510f9849f3904c605b68dbb4d"), looks := true }, kinds := [], alts := [], goes := true, laidByText := true, laidKinds := [.data, .data, .data, .sentinel, .sentinel, .data, .data, .data, .funcs, .mapped], laidTests := true, laidLooks := .later }
def CertificateStartUptoCardSaid : Prop := Claim7.holds Tryz.pinned (.plain (OpenSpec.upto certificateStartSpec)) certificateStartUptoCard
end Rows
end Go.Proofs.YtlggfbglpcegoaaGreatDoor
