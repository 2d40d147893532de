/-
  DERIVED. GIVEN WITH THE SEED: THE CARDS: each row of YtpohjepbmgeplaaGreatDoorRows.lean that lists a variable, with what it lists TIED to the program's text (the seventh form; the later family's looks); each row that meets fmt, with fmt's text TOLD by the authors' own Lean function (tested against real Go, not proved from fmt's source: count such statements apart). THE CARD IS WHAT COUNTS. Prove the row's statement (the work); the ties are given (YtpohjepbmgeplaaGreatDoorTie.lean); close each card by the builder's one call (the guide's Derived/Test/ToyasCard.lean, 'card_holds'). Laid BY PROGRAM, IN A SANDBOX (cutbox-door.mjs). By AI agents, Wed Nov 11 2026. No macro, syntax, notation, axiom, sorry.
-/
import Derived.Test.YtpohjepbmgeplaaGreatDoorRows
import GoSem.ClaimSeven
namespace Go.Proofs.YtpohjepbmgeplaaGreatDoor
namespace Rows

/-- THE TIED CARD OF 'attestorlaw11.CommitMatchesReference'. -/
def commitMatchesReferenceCard : Claim7 := { stood := { row := commitMatchesReferenceRow, standIns := [], harness := (true, "9aec9edf26597a5e0d74e9ea661a58ae13a62211ba795e0ae58b83c80a237e86"), looks := false }, kinds := [], alts := [], laidByText := true, laidKinds := [.data, .data, .data, .data, .data, .funcs], laidTests := true, laidLooks := .later }
def CommitMatchesReferenceCardSaid : Prop := Claim7.holds Tryz.pinned (.plain (OpenSpec.ofChange commitMatchesReferenceSpec)) commitMatchesReferenceCard

/-- THE TIED CARD OF 'attestorlaw11.CommitVerifyMatchesReference'. -/
def commitVerifyMatchesReferenceCard : Claim7 := { stood := { row := commitVerifyMatchesReferenceRow, standIns := [], harness := (true, "9aec9edf26597a5e0d74e9ea661a58ae13a62211ba795e0ae58b83c80a237e86"), looks := false }, kinds := [], alts := [], laidByText := true, laidKinds := [.data, .data, .data, .data, .data, .funcs], laidTests := true, laidLooks := .later }
def CommitVerifyMatchesReferenceCardSaid : Prop := Claim7.holds Tryz.pinned (.plain (OpenSpec.ofChange commitVerifyMatchesReferenceSpec)) commitVerifyMatchesReferenceCard

/-- THE TIED CARD OF 'attestorlaw11.CommitDistance'. -/
def commitDistanceCard : Claim7 := { stood := { row := commitDistanceRow, standIns := [], harness := (true, "9aec9edf26597a5e0d74e9ea661a58ae13a62211ba795e0ae58b83c80a237e86"), looks := false }, kinds := [], alts := [], laidByText := true, laidKinds := [.data, .data, .data, .data, .data, .funcs], laidTests := true, laidLooks := .later }
def CommitDistanceCardSaid : Prop := Claim7.holds Tryz.pinned (.plain (OpenSpec.ofChange commitDistanceSpec)) commitDistanceCard

/-- THE TIED CARD OF 'attestorlaw11.CommitLinear'. -/
def commitLinearCard : Claim7 := { stood := { row := commitLinearRow, standIns := [], harness := (true, "9aec9edf26597a5e0d74e9ea661a58ae13a62211ba795e0ae58b83c80a237e86"), looks := false }, kinds := [], alts := [], laidByText := true, laidKinds := [.data, .data, .data, .data, .data, .funcs], laidTests := true, laidLooks := .later }
def CommitLinearCardSaid : Prop := Claim7.holds Tryz.pinned (.plain (OpenSpec.ofChange commitLinearSpec)) commitLinearCard

/-- THE TIED CARD OF 'attestorlaw11.CommitShapes'. -/
def commitShapesCard : Claim7 := { stood := { row := commitShapesRow, standIns := [], harness := (true, "9aec9edf26597a5e0d74e9ea661a58ae13a62211ba795e0ae58b83c80a237e86"), looks := false }, kinds := [], alts := [], laidByText := true, laidKinds := [.data, .data, .data, .data, .data, .funcs], laidTests := true, laidLooks := .later }
def CommitShapesCardSaid : Prop := Claim7.holds Tryz.pinned (.plain (OpenSpec.ofChange commitShapesSpec)) commitShapesCard

/-- THE TIED CARD OF 'attestorlaw11.CommitValue'. -/
def commitValueCard : Claim7 := { stood := { row := commitValueRow, standIns := [], harness := (true, "9aec9edf26597a5e0d74e9ea661a58ae13a62211ba795e0ae58b83c80a237e86"), looks := false }, kinds := [], alts := [], laidByText := true, laidKinds := [.data, .data, .data, .data, .data, .funcs], laidTests := true, laidLooks := .later }
def CommitValueCardSaid : Prop := Claim7.holds Tryz.pinned (.plain (OpenSpec.ofChange commitValueSpec)) commitValueCard

/-- THE TIED CARD OF 'attestorlaw11.CommitComplete'. -/
def commitCompleteCard : Claim7 := { stood := { row := commitCompleteRow, standIns := [], harness := (true, "9aec9edf26597a5e0d74e9ea661a58ae13a62211ba795e0ae58b83c80a237e86"), looks := false }, kinds := [], alts := [], laidByText := true, laidKinds := [.data, .data, .data, .data, .data, .funcs], laidTests := true, laidLooks := .later }
def CommitCompleteCardSaid : Prop := Claim7.holds Tryz.pinned (.plain (OpenSpec.ofChange commitCompleteSpec)) commitCompleteCard

/-- THE SECOND FORM's CARD OF 'attestorlaw11.CommitMatchesReference'. -/
def commitMatchesReferenceUptoCard : Claim7 := { stood := { row := commitMatchesReferenceUptoRow, standIns := [], harness := (true, "9aec9edf26597a5e0d74e9ea661a58ae13a62211ba795e0ae58b83c80a237e86"), looks := false }, kinds := [], alts := [], laidByText := true, laidKinds := [.data, .data, .data, .data, .data, .funcs], laidTests := true, laidLooks := .later }
def CommitMatchesReferenceUptoCardSaid : Prop := Claim7.holds Tryz.pinned (.plain (OpenSpec.upto commitMatchesReferenceSpec)) commitMatchesReferenceUptoCard

/-- THE SECOND FORM's CARD OF 'attestorlaw11.CommitVerifyMatchesReference'. -/
def commitVerifyMatchesReferenceUptoCard : Claim7 := { stood := { row := commitVerifyMatchesReferenceUptoRow, standIns := [], harness := (true, "9aec9edf26597a5e0d74e9ea661a58ae13a62211ba795e0ae58b83c80a237e86"), looks := false }, kinds := [], alts := [], laidByText := true, laidKinds := [.data, .data, .data, .data, .data, .funcs], laidTests := true, laidLooks := .later }
def CommitVerifyMatchesReferenceUptoCardSaid : Prop := Claim7.holds Tryz.pinned (.plain (OpenSpec.upto commitVerifyMatchesReferenceSpec)) commitVerifyMatchesReferenceUptoCard

/-- THE SECOND FORM's CARD OF 'attestorlaw11.CommitDistance'. -/
def commitDistanceUptoCard : Claim7 := { stood := { row := commitDistanceUptoRow, standIns := [], harness := (true, "9aec9edf26597a5e0d74e9ea661a58ae13a62211ba795e0ae58b83c80a237e86"), looks := false }, kinds := [], alts := [], laidByText := true, laidKinds := [.data, .data, .data, .data, .data, .funcs], laidTests := true, laidLooks := .later }
def CommitDistanceUptoCardSaid : Prop := Claim7.holds Tryz.pinned (.plain (OpenSpec.upto commitDistanceSpec)) commitDistanceUptoCard

/-- THE SECOND FORM's CARD OF 'attestorlaw11.CommitLinear'. -/
def commitLinearUptoCard : Claim7 := { stood := { row := commitLinearUptoRow, standIns := [], harness := (true, "9aec9edf26597a5e0d74e9ea661a58ae13a62211ba795e0ae58b83c80a237e86"), looks := false }, kinds := [], alts := [], laidByText := true, laidKinds := [.data, .data, .data, .data, .data, .funcs], laidTests := true, laidLooks := .later }
def CommitLinearUptoCardSaid : Prop := Claim7.holds Tryz.pinned (.plain (OpenSpec.upto commitLinearSpec)) commitLinearUptoCard

/-- THE SECOND FORM's CARD OF 'attestorlaw11.CommitShapes'. -/
def commitShapesUptoCard : Claim7 := { stood := { row := commitShapesUptoRow, standIns := [], harness := (true, "9aec9edf26597a5e0d74e9ea661a58ae13a62211ba795e0ae58b83c80a237e86"), looks := false }, kinds := [], alts := [], laidByText := true, laidKinds := [.data, .data, .data, .data, .data, .funcs], laidTests := true, laidLooks := .later }
def CommitShapesUptoCardSaid : Prop := Claim7.holds Tryz.pinned (.plain (OpenSpec.upto commitShapesSpec)) commitShapesUptoCard

/-- THE SECOND FORM's CARD OF 'attestorlaw11.CommitValue'. -/
def commitValueUptoCard : Claim7 := { stood := { row := commitValueUptoRow, standIns := [], harness := (true, "9aec9edf26597a5e0d74e9ea661a58ae13a62211ba795e0ae58b83c80a237e86"), looks := false }, kinds := [], alts := [], laidByText := true, laidKinds := [.data, .data, .data, .data, .data, .funcs], laidTests := true, laidLooks := .later }
def CommitValueUptoCardSaid : Prop := Claim7.holds Tryz.pinned (.plain (OpenSpec.upto commitValueSpec)) commitValueUptoCard

/-- THE SECOND FORM's CARD OF 'attestorlaw11.CommitComplete'. -/
def commitCompleteUptoCard : Claim7 := { stood := { row := commitCompleteUptoRow, standIns := [], harness := (true, "9aec9edf26597a5e0d74e9ea661a58ae13a62211ba795e0ae58b83c80a237e86"), looks := false }, kinds := [], alts := [], laidByText := true, laidKinds := [.data, .data, .data, .data, .data, .funcs], laidTests := true, laidLooks := .later }
def CommitCompleteUptoCardSaid : Prop := Claim7.holds Tryz.pinned (.plain (OpenSpec.upto commitCompleteSpec)) commitCompleteUptoCard
end Rows
end Go.Proofs.YtpohjepbmgeplaaGreatDoor
