/-
  DERIVED. GIVEN WITH THE SEED: THE CARDS: each row of YtipnliodpmjhcaaDoorRows.lean that lists a variable, with what it lists TIED to the program's text (the seventh form; the later family's looks); each row that meets fmt, with fmt's text TOLD by the authors' own Lean function (tested against real Go, not proved from fmt's source: count such statements apart). THE CARD IS WHAT COUNTS. Prove the row's statement (the work); the ties are given (YtipnliodpmjhcaaDoorTie.lean); close each card by the builder's one call (the guide's Derived/Test/ToyasCard.lean, 'card_holds'). Laid BY PROGRAM, IN A SANDBOX (cutbox-door.mjs). By AI agents, Wed Nov 11 2026. No macro, syntax, notation, axiom, sorry.
-/
import Derived.Test.YtipnliodpmjhcaaDoorRows
import GoSem.ClaimSeven
namespace Go.Proofs.YtipnliodpmjhcaaDoor
namespace Rows

/-- THE TIED CARD OF 'attestorlaw13.QueryMatchesReference'. -/
def queryMatchesReferenceCard : Claim7 := { stood := { row := queryMatchesReferenceRow, standIns := [], harness := (true, "feccbd49ee007f8f11c66f2ab6503c1ba4b230fab9abdf216f90fe3be33fcc56"), looks := true }, kinds := [], alts := [], laidByText := true, laidKinds := [.data, .data, .data, .sentinel, .sentinel], laidTests := true, laidLooks := .later }
def QueryMatchesReferenceCardSaid : Prop := Claim7.holds Tryd.pinned (.plain (OpenSpec.ofChange queryMatchesReferenceSpec)) queryMatchesReferenceCard

/-- THE TIED CARD OF 'attestorlaw13.QueryParseMatchesReference'. -/
def queryParseMatchesReferenceCard : Claim7 := { stood := { row := queryParseMatchesReferenceRow, standIns := [], harness := (true, "feccbd49ee007f8f11c66f2ab6503c1ba4b230fab9abdf216f90fe3be33fcc56"), looks := true }, kinds := [], alts := [], laidByText := true, laidKinds := [.data, .data, .data, .sentinel, .sentinel], laidTests := true, laidLooks := .later }
def QueryParseMatchesReferenceCardSaid : Prop := Claim7.holds Tryd.pinned (.plain (OpenSpec.ofChange queryParseMatchesReferenceSpec)) queryParseMatchesReferenceCard

/-- THE TIED CARD OF 'attestorlaw13.QueryRoundTrip'. -/
def queryRoundTripCard : Claim7 := { stood := { row := queryRoundTripRow, standIns := [], harness := (true, "feccbd49ee007f8f11c66f2ab6503c1ba4b230fab9abdf216f90fe3be33fcc56"), looks := true }, kinds := [], alts := [], laidByText := true, laidKinds := [.data, .data, .data, .sentinel, .sentinel], laidTests := true, laidLooks := .later }
def QueryRoundTripCardSaid : Prop := Claim7.holds Tryd.pinned (.plain (OpenSpec.ofChange queryRoundTripSpec)) queryRoundTripCard

/-- THE TIED CARD OF 'attestorlaw13.QueryParsedValid'. -/
def queryParsedValidCard : Claim7 := { stood := { row := queryParsedValidRow, standIns := [], harness := (true, "feccbd49ee007f8f11c66f2ab6503c1ba4b230fab9abdf216f90fe3be33fcc56"), looks := true }, kinds := [], alts := [], laidByText := true, laidKinds := [.data, .data, .data, .sentinel, .sentinel], laidTests := true, laidLooks := .later }
def QueryParsedValidCardSaid : Prop := Claim7.holds Tryd.pinned (.plain (OpenSpec.ofChange queryParsedValidSpec)) queryParsedValidCard

/-- THE TIED CARD OF 'attestorlaw13.QueryWhiteSpace'. -/
def queryWhiteSpaceCard : Claim7 := { stood := { row := queryWhiteSpaceRow, standIns := [], harness := (true, "feccbd49ee007f8f11c66f2ab6503c1ba4b230fab9abdf216f90fe3be33fcc56"), looks := true }, kinds := [], alts := [], laidByText := true, laidKinds := [.data, .data, .data, .sentinel, .sentinel], laidTests := true, laidLooks := .later }
def QueryWhiteSpaceCardSaid : Prop := Claim7.holds Tryd.pinned (.plain (OpenSpec.ofChange queryWhiteSpaceSpec)) queryWhiteSpaceCard

/-- THE TIED CARD OF 'attestorlaw13.QueryEquals'. -/
def queryEqualsCard : Claim7 := { stood := { row := queryEqualsRow, standIns := [], harness := (true, "feccbd49ee007f8f11c66f2ab6503c1ba4b230fab9abdf216f90fe3be33fcc56"), looks := true }, kinds := [], alts := [], laidByText := true, laidKinds := [.data, .data, .data, .sentinel, .sentinel], laidTests := true, laidLooks := .later }
def QueryEqualsCardSaid : Prop := Claim7.holds Tryd.pinned (.plain (OpenSpec.ofChange queryEqualsSpec)) queryEqualsCard

/-- THE TIED CARD OF 'attestorlaw13.QueryFilters'. -/
def queryFiltersCard : Claim7 := { stood := { row := queryFiltersRow, standIns := [], harness := (true, "feccbd49ee007f8f11c66f2ab6503c1ba4b230fab9abdf216f90fe3be33fcc56"), looks := true }, kinds := [], alts := [], laidByText := true, laidKinds := [.data, .data, .data, .sentinel, .sentinel], laidTests := true, laidLooks := .later }
def QueryFiltersCardSaid : Prop := Claim7.holds Tryd.pinned (.plain (OpenSpec.ofChange queryFiltersSpec)) queryFiltersCard

/-- THE TIED CARD OF 'attestorlaw13.QueryRanges'. -/
def queryRangesCard : Claim7 := { stood := { row := queryRangesRow, standIns := [], harness := (true, "feccbd49ee007f8f11c66f2ab6503c1ba4b230fab9abdf216f90fe3be33fcc56"), looks := true }, kinds := [], alts := [], laidByText := true, laidKinds := [.data, .data, .data, .sentinel, .sentinel], laidTests := true, laidLooks := .later }
def QueryRangesCardSaid : Prop := Claim7.holds Tryd.pinned (.plain (OpenSpec.ofChange queryRangesSpec)) queryRangesCard

/-- THE SECOND FORM's CARD OF 'attestorlaw13.QueryMatchesReference'. -/
def queryMatchesReferenceUptoCard : Claim7 := { stood := { row := queryMatchesReferenceUptoRow, standIns := [], harness := (true, "feccbd49ee007f8f11c66f2ab6503c1ba4b230fab9abdf216f90fe3be33fcc56"), looks := true }, kinds := [], alts := [], laidByText := true, laidKinds := [.data, .data, .data, .sentinel, .sentinel], laidTests := true, laidLooks := .later }
def QueryMatchesReferenceUptoCardSaid : Prop := Claim7.holds Tryd.pinned (.plain (OpenSpec.upto queryMatchesReferenceSpec)) queryMatchesReferenceUptoCard

/-- THE SECOND FORM's CARD OF 'attestorlaw13.QueryParseMatchesReference'. -/
def queryParseMatchesReferenceUptoCard : Claim7 := { stood := { row := queryParseMatchesReferenceUptoRow, standIns := [], harness := (true, "feccbd49ee007f8f11c66f2ab6503c1ba4b230fab9abdf216f90fe3be33fcc56"), looks := true }, kinds := [], alts := [], laidByText := true, laidKinds := [.data, .data, .data, .sentinel, .sentinel], laidTests := true, laidLooks := .later }
def QueryParseMatchesReferenceUptoCardSaid : Prop := Claim7.holds Tryd.pinned (.plain (OpenSpec.upto queryParseMatchesReferenceSpec)) queryParseMatchesReferenceUptoCard

/-- THE SECOND FORM's CARD OF 'attestorlaw13.QueryRoundTrip'. -/
def queryRoundTripUptoCard : Claim7 := { stood := { row := queryRoundTripUptoRow, standIns := [], harness := (true, "feccbd49ee007f8f11c66f2ab6503c1ba4b230fab9abdf216f90fe3be33fcc56"), looks := true }, kinds := [], alts := [], laidByText := true, laidKinds := [.data, .data, .data, .sentinel, .sentinel], laidTests := true, laidLooks := .later }
def QueryRoundTripUptoCardSaid : Prop := Claim7.holds Tryd.pinned (.plain (OpenSpec.upto queryRoundTripSpec)) queryRoundTripUptoCard

/-- THE SECOND FORM's CARD OF 'attestorlaw13.QueryParsedValid'. -/
def queryParsedValidUptoCard : Claim7 := { stood := { row := queryParsedValidUptoRow, standIns := [], harness := (true, "feccbd49ee007f8f11c66f2ab6503c1ba4b230fab9abdf216f90fe3be33fcc56"), looks := true }, kinds := [], alts := [], laidByText := true, laidKinds := [.data, .data, .data, .sentinel, .sentinel], laidTests := true, laidLooks := .later }
def QueryParsedValidUptoCardSaid : Prop := Claim7.holds Tryd.pinned (.plain (OpenSpec.upto queryParsedValidSpec)) queryParsedValidUptoCard

/-- THE SECOND FORM's CARD OF 'attestorlaw13.QueryWhiteSpace'. -/
def queryWhiteSpaceUptoCard : Claim7 := { stood := { row := queryWhiteSpaceUptoRow, standIns := [], harness := (true, "feccbd49ee007f8f11c66f2ab6503c1ba4b230fab9abdf216f90fe3be33fcc56"), looks := true }, kinds := [], alts := [], laidByText := true, laidKinds := [.data, .data, .data, .sentinel, .sentinel], laidTests := true, laidLooks := .later }
def QueryWhiteSpaceUptoCardSaid : Prop := Claim7.holds Tryd.pinned (.plain (OpenSpec.upto queryWhiteSpaceSpec)) queryWhiteSpaceUptoCard

/-- THE SECOND FORM's CARD OF 'attestorlaw13.QueryEquals'. -/
def queryEqualsUptoCard : Claim7 := { stood := { row := queryEqualsUptoRow, standIns := [], harness := (true, "feccbd49ee007f8f11c66f2ab6503c1ba4b230fab9abdf216f90fe3be33fcc56"), looks := true }, kinds := [], alts := [], laidByText := true, laidKinds := [.data, .data, .data, .sentinel, .sentinel], laidTests := true, laidLooks := .later }
def QueryEqualsUptoCardSaid : Prop := Claim7.holds Tryd.pinned (.plain (OpenSpec.upto queryEqualsSpec)) queryEqualsUptoCard

/-- THE SECOND FORM's CARD OF 'attestorlaw13.QueryFilters'. -/
def queryFiltersUptoCard : Claim7 := { stood := { row := queryFiltersUptoRow, standIns := [], harness := (true, "feccbd49ee007f8f11c66f2ab6503c1ba4b230fab9abdf216f90fe3be33fcc56"), looks := true }, kinds := [], alts := [], laidByText := true, laidKinds := [.data, .data, .data, .sentinel, .sentinel], laidTests := true, laidLooks := .later }
def QueryFiltersUptoCardSaid : Prop := Claim7.holds Tryd.pinned (.plain (OpenSpec.upto queryFiltersSpec)) queryFiltersUptoCard

/-- THE SECOND FORM's CARD OF 'attestorlaw13.QueryRanges'. -/
def queryRangesUptoCard : Claim7 := { stood := { row := queryRangesUptoRow, standIns := [], harness := (true, "feccbd49ee007f8f11c66f2ab6503c1ba4b230fab9abdf216f90fe3be33fcc56"), looks := true }, kinds := [], alts := [], laidByText := true, laidKinds := [.data, .data, .data, .sentinel, .sentinel], laidTests := true, laidLooks := .later }
def QueryRangesUptoCardSaid : Prop := Claim7.holds Tryd.pinned (.plain (OpenSpec.upto queryRangesSpec)) queryRangesUptoCard
end Rows
end Go.Proofs.YtipnliodpmjhcaaDoor
