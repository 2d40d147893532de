/-
  DERIVED. GIVEN WITH THE SEED: THE CARDS: each row of YtemodkjmdalmlaaDoorRows.lean that lists a variable, with what it lists TIED to the program's text (the seventh form; the later family's looks); each row that meets fmt, with fmt's text TOLD by the authors' own Lean function (tested against real Go, not proved from fmt's source: count such statements apart). THE CARD IS WHAT COUNTS. Prove the row's statement (the work); the ties are given (YtemodkjmdalmlaaDoorTie.lean); close each card by the builder's one call (the guide's Derived/Test/ToyasCard.lean, 'card_holds'). Laid BY PROGRAM, IN A SANDBOX (cutbox-door.mjs). By AI agents, Wed Nov 11 2026. No macro, syntax, notation, axiom, sorry.
-/
import Derived.Test.YtemodkjmdalmlaaDoorRows
import GoSem.ClaimSeven
namespace Go.Proofs.YtemodkjmdalmlaaDoor
namespace Rows

/-- THE TIED CARD OF 'attestorlaw10.TranscriptIndicesMatchReference'. -/
def transcriptIndicesMatchReferenceCard : Claim7 := { stood := { row := transcriptIndicesMatchReferenceRow, standIns := [], harness := (true, "b69d63ebcfa8d02f18f3d0a4cacb53501366fa385d4c87d03df14ea953ec9611"), looks := false }, kinds := [], alts := [], laidByText := true, laidKinds := [.data, .data], laidTests := true, laidLooks := .later }
def TranscriptIndicesMatchReferenceCardSaid : Prop := Claim7.holds Tryd.pinned (.plain (OpenSpec.ofChange transcriptIndicesMatchReferenceSpec)) transcriptIndicesMatchReferenceCard

/-- THE TIED CARD OF 'attestorlaw10.TranscriptBytes'. -/
def transcriptBytesCard : Claim7 := { stood := { row := transcriptBytesRow, standIns := [], harness := (true, "b69d63ebcfa8d02f18f3d0a4cacb53501366fa385d4c87d03df14ea953ec9611"), looks := false }, kinds := [], alts := [], laidByText := true, laidKinds := [.data, .data], laidTests := true, laidLooks := .later }
def TranscriptBytesCardSaid : Prop := Claim7.holds Tryd.pinned (.plain (OpenSpec.ofChange transcriptBytesSpec)) transcriptBytesCard

/-- THE TIED CARD OF 'attestorlaw10.TranscriptChallenges'. -/
def transcriptChallengesCard : Claim7 := { stood := { row := transcriptChallengesRow, standIns := [], harness := (true, "b69d63ebcfa8d02f18f3d0a4cacb53501366fa385d4c87d03df14ea953ec9611"), looks := false }, kinds := [], alts := [], laidByText := true, laidKinds := [.data, .data], laidTests := true, laidLooks := .later }
def TranscriptChallengesCardSaid : Prop := Claim7.holds Tryd.pinned (.plain (OpenSpec.ofChange transcriptChallengesSpec)) transcriptChallengesCard

/-- THE TIED CARD OF 'attestorlaw10.TranscriptIndices'. -/
def transcriptIndicesCard : Claim7 := { stood := { row := transcriptIndicesRow, standIns := [], harness := (true, "b69d63ebcfa8d02f18f3d0a4cacb53501366fa385d4c87d03df14ea953ec9611"), looks := false }, kinds := [], alts := [], laidByText := true, laidKinds := [.data, .data], laidTests := true, laidLooks := .later }
def TranscriptIndicesCardSaid : Prop := Claim7.holds Tryd.pinned (.plain (OpenSpec.ofChange transcriptIndicesSpec)) transcriptIndicesCard

/-- THE TIED CARD OF 'attestorlaw10.TranscriptPermutation'. -/
def transcriptPermutationCard : Claim7 := { stood := { row := transcriptPermutationRow, standIns := [], harness := (true, "b69d63ebcfa8d02f18f3d0a4cacb53501366fa385d4c87d03df14ea953ec9611"), looks := false }, kinds := [], alts := [], laidByText := true, laidKinds := [.data, .data], laidTests := true, laidLooks := .later }
def TranscriptPermutationCardSaid : Prop := Claim7.holds Tryd.pinned (.plain (OpenSpec.ofChange transcriptPermutationSpec)) transcriptPermutationCard

/-- THE TIED CARD OF 'attestorlaw10.TranscriptHashInputs'. -/
def transcriptHashInputsCard : Claim7 := { stood := { row := transcriptHashInputsRow, standIns := [], harness := (true, "b69d63ebcfa8d02f18f3d0a4cacb53501366fa385d4c87d03df14ea953ec9611"), looks := false }, kinds := [], alts := [], laidByText := true, laidKinds := [.data, .data], laidTests := true, laidLooks := .later }
def TranscriptHashInputsCardSaid : Prop := Claim7.holds Tryd.pinned (.plain (OpenSpec.ofChange transcriptHashInputsSpec)) transcriptHashInputsCard

/-- THE TIED CARD OF 'attestorlaw10.TranscriptMatchesReference'. -/
def transcriptMatchesReferenceCard : Claim7 := { stood := { row := transcriptMatchesReferenceRow, standIns := [], harness := (true, "b69d63ebcfa8d02f18f3d0a4cacb53501366fa385d4c87d03df14ea953ec9611"), looks := false }, kinds := [], alts := [], laidByText := true, laidKinds := [.data, .data], laidTests := true, laidLooks := .later }
def TranscriptMatchesReferenceCardSaid : Prop := Claim7.holds Tryd.pinned (.plain (OpenSpec.ofChange transcriptMatchesReferenceSpec)) transcriptMatchesReferenceCard

/-- THE TIED CARD OF 'attestorlaw10.TranscriptState'. -/
def transcriptStateCard : Claim7 := { stood := { row := transcriptStateRow, standIns := [], harness := (true, "b69d63ebcfa8d02f18f3d0a4cacb53501366fa385d4c87d03df14ea953ec9611"), looks := false }, kinds := [], alts := [], laidByText := true, laidKinds := [.data, .data], laidTests := true, laidLooks := .later }
def TranscriptStateCardSaid : Prop := Claim7.holds Tryd.pinned (.plain (OpenSpec.ofChange transcriptStateSpec)) transcriptStateCard

/-- THE SECOND FORM's CARD OF 'attestorlaw10.TranscriptIndicesMatchReference'. -/
def transcriptIndicesMatchReferenceUptoCard : Claim7 := { stood := { row := transcriptIndicesMatchReferenceUptoRow, standIns := [], harness := (true, "b69d63ebcfa8d02f18f3d0a4cacb53501366fa385d4c87d03df14ea953ec9611"), looks := false }, kinds := [], alts := [], laidByText := true, laidKinds := [.data, .data], laidTests := true, laidLooks := .later }
def TranscriptIndicesMatchReferenceUptoCardSaid : Prop := Claim7.holds Tryd.pinned (.plain (OpenSpec.upto transcriptIndicesMatchReferenceSpec)) transcriptIndicesMatchReferenceUptoCard

/-- THE SECOND FORM's CARD OF 'attestorlaw10.TranscriptBytes'. -/
def transcriptBytesUptoCard : Claim7 := { stood := { row := transcriptBytesUptoRow, standIns := [], harness := (true, "b69d63ebcfa8d02f18f3d0a4cacb53501366fa385d4c87d03df14ea953ec9611"), looks := false }, kinds := [], alts := [], laidByText := true, laidKinds := [.data, .data], laidTests := true, laidLooks := .later }
def TranscriptBytesUptoCardSaid : Prop := Claim7.holds Tryd.pinned (.plain (OpenSpec.upto transcriptBytesSpec)) transcriptBytesUptoCard

/-- THE SECOND FORM's CARD OF 'attestorlaw10.TranscriptChallenges'. -/
def transcriptChallengesUptoCard : Claim7 := { stood := { row := transcriptChallengesUptoRow, standIns := [], harness := (true, "b69d63ebcfa8d02f18f3d0a4cacb53501366fa385d4c87d03df14ea953ec9611"), looks := false }, kinds := [], alts := [], laidByText := true, laidKinds := [.data, .data], laidTests := true, laidLooks := .later }
def TranscriptChallengesUptoCardSaid : Prop := Claim7.holds Tryd.pinned (.plain (OpenSpec.upto transcriptChallengesSpec)) transcriptChallengesUptoCard

/-- THE SECOND FORM's CARD OF 'attestorlaw10.TranscriptIndices'. -/
def transcriptIndicesUptoCard : Claim7 := { stood := { row := transcriptIndicesUptoRow, standIns := [], harness := (true, "b69d63ebcfa8d02f18f3d0a4cacb53501366fa385d4c87d03df14ea953ec9611"), looks := false }, kinds := [], alts := [], laidByText := true, laidKinds := [.data, .data], laidTests := true, laidLooks := .later }
def TranscriptIndicesUptoCardSaid : Prop := Claim7.holds Tryd.pinned (.plain (OpenSpec.upto transcriptIndicesSpec)) transcriptIndicesUptoCard

/-- THE SECOND FORM's CARD OF 'attestorlaw10.TranscriptPermutation'. -/
def transcriptPermutationUptoCard : Claim7 := { stood := { row := transcriptPermutationUptoRow, standIns := [], harness := (true, "b69d63ebcfa8d02f18f3d0a4cacb53501366fa385d4c87d03df14ea953ec9611"), looks := false }, kinds := [], alts := [], laidByText := true, laidKinds := [.data, .data], laidTests := true, laidLooks := .later }
def TranscriptPermutationUptoCardSaid : Prop := Claim7.holds Tryd.pinned (.plain (OpenSpec.upto transcriptPermutationSpec)) transcriptPermutationUptoCard

/-- THE SECOND FORM's CARD OF 'attestorlaw10.TranscriptHashInputs'. -/
def transcriptHashInputsUptoCard : Claim7 := { stood := { row := transcriptHashInputsUptoRow, standIns := [], harness := (true, "b69d63ebcfa8d02f18f3d0a4cacb53501366fa385d4c87d03df14ea953ec9611"), looks := false }, kinds := [], alts := [], laidByText := true, laidKinds := [.data, .data], laidTests := true, laidLooks := .later }
def TranscriptHashInputsUptoCardSaid : Prop := Claim7.holds Tryd.pinned (.plain (OpenSpec.upto transcriptHashInputsSpec)) transcriptHashInputsUptoCard

/-- THE SECOND FORM's CARD OF 'attestorlaw10.TranscriptMatchesReference'. -/
def transcriptMatchesReferenceUptoCard : Claim7 := { stood := { row := transcriptMatchesReferenceUptoRow, standIns := [], harness := (true, "b69d63ebcfa8d02f18f3d0a4cacb53501366fa385d4c87d03df14ea953ec9611"), looks := false }, kinds := [], alts := [], laidByText := true, laidKinds := [.data, .data], laidTests := true, laidLooks := .later }
def TranscriptMatchesReferenceUptoCardSaid : Prop := Claim7.holds Tryd.pinned (.plain (OpenSpec.upto transcriptMatchesReferenceSpec)) transcriptMatchesReferenceUptoCard

/-- THE SECOND FORM's CARD OF 'attestorlaw10.TranscriptState'. -/
def transcriptStateUptoCard : Claim7 := { stood := { row := transcriptStateUptoRow, standIns := [], harness := (true, "b69d63ebcfa8d02f18f3d0a4cacb53501366fa385d4c87d03df14ea953ec9611"), looks := false }, kinds := [], alts := [], laidByText := true, laidKinds := [.data, .data], laidTests := true, laidLooks := .later }
def TranscriptStateUptoCardSaid : Prop := Claim7.holds Tryd.pinned (.plain (OpenSpec.upto transcriptStateSpec)) transcriptStateUptoCard
end Rows
end Go.Proofs.YtemodkjmdalmlaaDoor
