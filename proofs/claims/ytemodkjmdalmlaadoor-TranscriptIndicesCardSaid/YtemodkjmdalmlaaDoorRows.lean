/-
  NARROWER THAN 'FOR EVERY INPUT', by the rows' own cells (each row's printed sentence says how): TranscriptIndicesMatchReference: laid · TranscriptBytes: laid · TranscriptChallenges: laid · TranscriptIndices: laid · TranscriptPermutation: laid · TranscriptHashInputs: laid · TranscriptMatchesReference: laid · TranscriptState: laid.
  DERIVED. THE GIVEN ROWS OF THIS SEAT. 8 by the template 'for every input the law returns true; each argument reads behind the call as it read before'; 0 by the template 'total and deterministic' (their statements: YtemodkjmdalmlaaDoorTotals.lean).
  GIVEN WITH THE SEED: the statements are not yours to turn. If you find one false, say at which input.
  Laid BY PROGRAM, IN A SANDBOX (cutbox-rows.mjs): the forced cells as the released guide's own fill.sh prints them over the translation d82948a6f265e5a9… (all of the seat's roots in one cut). By AI agents, Wed Nov 11 2026. No macro, syntax, notation, axiom, sorry.
-/
import Derived.Test.YtemodkjmdalmlaaDoorChecked
import GoSem.Claim
import GoSem.ClaimJoined
import GoSem.ClaimMapViews
import Derived.JoinedTies
import Derived.KernelRfl
namespace Go.Proofs.YtemodkjmdalmlaaDoor
/- THE CELL 'sum', in the pinned program and in every row, IS THE sha256 OF THE DUMP (.gsa) THAT YtemodkjmdalmlaaDoorProg.lean LOADS. Nothing in Lean hashes anything: it is a label: what it is worth is what the hold of that sum in a sandbox is worth. -/
noncomputable def Tryd.pinned : Pinned := { name := "ytemodkjmdalmlaadoor", sum := "d82948a6f265e5a9d6d40e21dba798322f3ac0454bba8b73d5e2bc0e1decddff", checked := Tryd.checked }
namespace Rows
def none {H : Type} : Left H := { results := [], args := [] }

/- WHAT THE LISTED PACKAGE-LEVEL VARIABLES READ AS WHEN THE CALL BEGINS. Each datum BY PROGRAM (the guide's laid-datum.mjs) off the statement by which the dump's own 'gosem.cut.vars' lays the variable. In a bare row this is a premise. The card (YtemodkjmdalmlaaDoorCards.lean) ties it to the program's text. -/
def laid_attestor_sha256_constants {H : Type} : DataW H := .agg [.lit (.int .u32 1116352408), .lit (.int .u32 1899447441), .lit (.int .u32 3049323471), .lit (.int .u32 3921009573), .lit (.int .u32 961987163), .lit (.int .u32 1508970993), .lit (.int .u32 2453635748), .lit (.int .u32 2870763221), .lit (.int .u32 3624381080), .lit (.int .u32 310598401), .lit (.int .u32 607225278), .lit (.int .u32 1426881987), .lit (.int .u32 1925078388), .lit (.int .u32 2162078206), .lit (.int .u32 2614888103), .lit (.int .u32 3248222580), .lit (.int .u32 3835390401), .lit (.int .u32 4022224774), .lit (.int .u32 264347078), .lit (.int .u32 604807628), .lit (.int .u32 770255983), .lit (.int .u32 1249150122), .lit (.int .u32 1555081692), .lit (.int .u32 1996064986), .lit (.int .u32 2554220882), .lit (.int .u32 2821834349), .lit (.int .u32 2952996808), .lit (.int .u32 3210313671), .lit (.int .u32 3336571891), .lit (.int .u32 3584528711), .lit (.int .u32 113926993), .lit (.int .u32 338241895), .lit (.int .u32 666307205), .lit (.int .u32 773529912), .lit (.int .u32 1294757372), .lit (.int .u32 1396182291), .lit (.int .u32 1695183700), .lit (.int .u32 1986661051), .lit (.int .u32 2177026350), .lit (.int .u32 2456956037), .lit (.int .u32 2730485921), .lit (.int .u32 2820302411), .lit (.int .u32 3259730800), .lit (.int .u32 3345764771), .lit (.int .u32 3516065817), .lit (.int .u32 3600352804), .lit (.int .u32 4094571909), .lit (.int .u32 275423344), .lit (.int .u32 430227734), .lit (.int .u32 506948616), .lit (.int .u32 659060556), .lit (.int .u32 883997877), .lit (.int .u32 958139571), .lit (.int .u32 1322822218), .lit (.int .u32 1537002063), .lit (.int .u32 1747873779), .lit (.int .u32 1955562222), .lit (.int .u32 2024104815), .lit (.int .u32 2227730452), .lit (.int .u32 2361852424), .lit (.int .u32 2428436474), .lit (.int .u32 2756734187), .lit (.int .u32 3204031479), .lit (.int .u32 3329325298)]
def laid_attestor_sha256_initial {H : Type} : DataW H := .agg [.lit (.int .u32 1779033703), .lit (.int .u32 3144134277), .lit (.int .u32 1013904242), .lit (.int .u32 2773480762), .lit (.int .u32 1359893119), .lit (.int .u32 2600822924), .lit (.int .u32 528734635), .lit (.int .u32 1541459225)]

/-- 'attestorlaw10.TranscriptIndicesMatchReference': WHATEVER THE INPUT: true; the input reads as it did. -/
def transcriptIndicesMatchReferenceSpec : ChangeSpec := { name := "transcriptIndicesMatchReference", fn := fun _ => fun
  | [d1, d2] => { results := [.lit (.bool true)], args := [d1, d2] }
  | _ => none }
def transcriptIndicesMatchReferenceRow : OpenClaim := { program := "ytemodkjmdalmlaadoor", sum := "d82948a6f265e5a9d6d40e21dba798322f3ac0454bba8b73d5e2bc0e1decddff", func := "attestor/attestorlaw10.TranscriptIndicesMatchReference", spec := "transcriptIndicesMatchReference", unfollowed := true, recurses := true, named := ["attestor/sha256.initial", "attestor/sha256.constants"], apart := false, laid := [("attestor/sha256.constants", laid_attestor_sha256_constants), ("attestor/sha256.initial", laid_attestor_sha256_initial)] }
def TranscriptIndicesMatchReferenceSaid : Prop := transcriptIndicesMatchReferenceRow.holds Tryd.pinned (OpenSpec.ofChange transcriptIndicesMatchReferenceSpec)

/-- ITS FALSE NEIGHBOUR: 'it returns false'. Refute it at one input. -/
def transcriptIndicesMatchReferenceWrong : ChangeSpec := { name := "transcriptIndicesMatchReference", fn := fun _ => fun
  | [d1, d2] => { results := [.lit (.bool false)], args := [d1, d2] }
  | _ => none }
def TranscriptIndicesMatchReferenceWrongFalsely : Prop := transcriptIndicesMatchReferenceRow.holds Tryd.pinned (OpenSpec.ofChange transcriptIndicesMatchReferenceWrong)

/-- 'attestorlaw10.TranscriptBytes': WHATEVER THE INPUT: true; the input reads as it did. -/
def transcriptBytesSpec : ChangeSpec := { name := "transcriptBytes", fn := fun _ => fun
  | [d1, d2] => { results := [.lit (.bool true)], args := [d1, d2] }
  | _ => none }
def transcriptBytesRow : OpenClaim := { program := "ytemodkjmdalmlaadoor", sum := "d82948a6f265e5a9d6d40e21dba798322f3ac0454bba8b73d5e2bc0e1decddff", func := "attestor/attestorlaw10.TranscriptBytes", spec := "transcriptBytes", unfollowed := true, recurses := true, named := ["attestor/sha256.initial", "attestor/sha256.constants"], apart := false, laid := [("attestor/sha256.constants", laid_attestor_sha256_constants), ("attestor/sha256.initial", laid_attestor_sha256_initial)] }
def TranscriptBytesSaid : Prop := transcriptBytesRow.holds Tryd.pinned (OpenSpec.ofChange transcriptBytesSpec)

/-- ITS FALSE NEIGHBOUR: 'it returns false'. Refute it at one input. -/
def transcriptBytesWrong : ChangeSpec := { name := "transcriptBytes", fn := fun _ => fun
  | [d1, d2] => { results := [.lit (.bool false)], args := [d1, d2] }
  | _ => none }
def TranscriptBytesWrongFalsely : Prop := transcriptBytesRow.holds Tryd.pinned (OpenSpec.ofChange transcriptBytesWrong)

/-- 'attestorlaw10.TranscriptChallenges': WHATEVER THE INPUT: true; the input reads as it did. -/
def transcriptChallengesSpec : ChangeSpec := { name := "transcriptChallenges", fn := fun _ => fun
  | [d1, d2] => { results := [.lit (.bool true)], args := [d1, d2] }
  | _ => none }
def transcriptChallengesRow : OpenClaim := { program := "ytemodkjmdalmlaadoor", sum := "d82948a6f265e5a9d6d40e21dba798322f3ac0454bba8b73d5e2bc0e1decddff", func := "attestor/attestorlaw10.TranscriptChallenges", spec := "transcriptChallenges", unfollowed := true, recurses := true, named := ["attestor/sha256.initial", "attestor/sha256.constants"], apart := false, laid := [("attestor/sha256.constants", laid_attestor_sha256_constants), ("attestor/sha256.initial", laid_attestor_sha256_initial)] }
def TranscriptChallengesSaid : Prop := transcriptChallengesRow.holds Tryd.pinned (OpenSpec.ofChange transcriptChallengesSpec)

/-- ITS FALSE NEIGHBOUR: 'it returns false'. Refute it at one input. -/
def transcriptChallengesWrong : ChangeSpec := { name := "transcriptChallenges", fn := fun _ => fun
  | [d1, d2] => { results := [.lit (.bool false)], args := [d1, d2] }
  | _ => none }
def TranscriptChallengesWrongFalsely : Prop := transcriptChallengesRow.holds Tryd.pinned (OpenSpec.ofChange transcriptChallengesWrong)

/-- 'attestorlaw10.TranscriptIndices': WHATEVER THE INPUT: true; the input reads as it did. -/
def transcriptIndicesSpec : ChangeSpec := { name := "transcriptIndices", fn := fun _ => fun
  | [d1, d2, d3] => { results := [.lit (.bool true)], args := [d1, d2, d3] }
  | _ => none }
def transcriptIndicesRow : OpenClaim := { program := "ytemodkjmdalmlaadoor", sum := "d82948a6f265e5a9d6d40e21dba798322f3ac0454bba8b73d5e2bc0e1decddff", func := "attestor/attestorlaw10.TranscriptIndices", spec := "transcriptIndices", unfollowed := true, recurses := true, named := ["attestor/sha256.initial", "attestor/sha256.constants"], apart := false, laid := [("attestor/sha256.constants", laid_attestor_sha256_constants), ("attestor/sha256.initial", laid_attestor_sha256_initial)] }
def TranscriptIndicesSaid : Prop := transcriptIndicesRow.holds Tryd.pinned (OpenSpec.ofChange transcriptIndicesSpec)

/-- ITS FALSE NEIGHBOUR: 'it returns false'. Refute it at one input. -/
def transcriptIndicesWrong : ChangeSpec := { name := "transcriptIndices", fn := fun _ => fun
  | [d1, d2, d3] => { results := [.lit (.bool false)], args := [d1, d2, d3] }
  | _ => none }
def TranscriptIndicesWrongFalsely : Prop := transcriptIndicesRow.holds Tryd.pinned (OpenSpec.ofChange transcriptIndicesWrong)

/-- 'attestorlaw10.TranscriptPermutation': WHATEVER THE INPUT: true; the input reads as it did. -/
def transcriptPermutationSpec : ChangeSpec := { name := "transcriptPermutation", fn := fun _ => fun
  | [d1, d2] => { results := [.lit (.bool true)], args := [d1, d2] }
  | _ => none }
def transcriptPermutationRow : OpenClaim := { program := "ytemodkjmdalmlaadoor", sum := "d82948a6f265e5a9d6d40e21dba798322f3ac0454bba8b73d5e2bc0e1decddff", func := "attestor/attestorlaw10.TranscriptPermutation", spec := "transcriptPermutation", unfollowed := true, recurses := true, named := ["attestor/sha256.initial", "attestor/sha256.constants"], apart := false, laid := [("attestor/sha256.constants", laid_attestor_sha256_constants), ("attestor/sha256.initial", laid_attestor_sha256_initial)] }
def TranscriptPermutationSaid : Prop := transcriptPermutationRow.holds Tryd.pinned (OpenSpec.ofChange transcriptPermutationSpec)

/-- ITS FALSE NEIGHBOUR: 'it returns false'. Refute it at one input. -/
def transcriptPermutationWrong : ChangeSpec := { name := "transcriptPermutation", fn := fun _ => fun
  | [d1, d2] => { results := [.lit (.bool false)], args := [d1, d2] }
  | _ => none }
def TranscriptPermutationWrongFalsely : Prop := transcriptPermutationRow.holds Tryd.pinned (OpenSpec.ofChange transcriptPermutationWrong)

/-- 'attestorlaw10.TranscriptHashInputs': WHATEVER THE INPUT: true; the input reads as it did. -/
def transcriptHashInputsSpec : ChangeSpec := { name := "transcriptHashInputs", fn := fun _ => fun
  | [d] => { results := [.lit (.bool true)], args := [d] }
  | _ => none }
def transcriptHashInputsRow : OpenClaim := { program := "ytemodkjmdalmlaadoor", sum := "d82948a6f265e5a9d6d40e21dba798322f3ac0454bba8b73d5e2bc0e1decddff", func := "attestor/attestorlaw10.TranscriptHashInputs", spec := "transcriptHashInputs", unfollowed := true, recurses := true, named := ["attestor/sha256.initial", "attestor/sha256.constants"], apart := false, laid := [("attestor/sha256.constants", laid_attestor_sha256_constants), ("attestor/sha256.initial", laid_attestor_sha256_initial)] }
def TranscriptHashInputsSaid : Prop := transcriptHashInputsRow.holds Tryd.pinned (OpenSpec.ofChange transcriptHashInputsSpec)

/-- ITS FALSE NEIGHBOUR: 'it returns false'. Refute it at one input. -/
def transcriptHashInputsWrong : ChangeSpec := { name := "transcriptHashInputs", fn := fun _ => fun
  | [d] => { results := [.lit (.bool false)], args := [d] }
  | _ => none }
def TranscriptHashInputsWrongFalsely : Prop := transcriptHashInputsRow.holds Tryd.pinned (OpenSpec.ofChange transcriptHashInputsWrong)

/-- 'attestorlaw10.TranscriptMatchesReference': WHATEVER THE INPUT: true; the input reads as it did. -/
def transcriptMatchesReferenceSpec : ChangeSpec := { name := "transcriptMatchesReference", fn := fun _ => fun
  | [d] => { results := [.lit (.bool true)], args := [d] }
  | _ => none }
def transcriptMatchesReferenceRow : OpenClaim := { program := "ytemodkjmdalmlaadoor", sum := "d82948a6f265e5a9d6d40e21dba798322f3ac0454bba8b73d5e2bc0e1decddff", func := "attestor/attestorlaw10.TranscriptMatchesReference", spec := "transcriptMatchesReference", unfollowed := true, recurses := true, named := ["attestor/sha256.initial", "attestor/sha256.constants"], apart := false, laid := [("attestor/sha256.constants", laid_attestor_sha256_constants), ("attestor/sha256.initial", laid_attestor_sha256_initial)] }
def TranscriptMatchesReferenceSaid : Prop := transcriptMatchesReferenceRow.holds Tryd.pinned (OpenSpec.ofChange transcriptMatchesReferenceSpec)

/-- ITS FALSE NEIGHBOUR: 'it returns false'. Refute it at one input. -/
def transcriptMatchesReferenceWrong : ChangeSpec := { name := "transcriptMatchesReference", fn := fun _ => fun
  | [d] => { results := [.lit (.bool false)], args := [d] }
  | _ => none }
def TranscriptMatchesReferenceWrongFalsely : Prop := transcriptMatchesReferenceRow.holds Tryd.pinned (OpenSpec.ofChange transcriptMatchesReferenceWrong)

/-- 'attestorlaw10.TranscriptState': WHATEVER THE INPUT: true; the input reads as it did. -/
def transcriptStateSpec : ChangeSpec := { name := "transcriptState", fn := fun _ => fun
  | [d1, d2] => { results := [.lit (.bool true)], args := [d1, d2] }
  | _ => none }
def transcriptStateRow : OpenClaim := { program := "ytemodkjmdalmlaadoor", sum := "d82948a6f265e5a9d6d40e21dba798322f3ac0454bba8b73d5e2bc0e1decddff", func := "attestor/attestorlaw10.TranscriptState", spec := "transcriptState", unfollowed := true, recurses := true, named := ["attestor/sha256.initial", "attestor/sha256.constants"], apart := false, laid := [("attestor/sha256.constants", laid_attestor_sha256_constants), ("attestor/sha256.initial", laid_attestor_sha256_initial)] }
def TranscriptStateSaid : Prop := transcriptStateRow.holds Tryd.pinned (OpenSpec.ofChange transcriptStateSpec)

/-- ITS FALSE NEIGHBOUR: 'it returns false'. Refute it at one input. -/
def transcriptStateWrong : ChangeSpec := { name := "transcriptState", fn := fun _ => fun
  | [d1, d2] => { results := [.lit (.bool false)], args := [d1, d2] }
  | _ => none }
def TranscriptStateWrongFalsely : Prop := transcriptStateRow.holds Tryd.pinned (OpenSpec.ofChange transcriptStateWrong)

/- THE SECOND FORM. 'bulk': how many values and letters a reading holds, each counted each time it is reached (what is shared counts as often as it is met; a slice's spare places count too). A statement '..UptoSaid' is the law's where the arguments, and the package variables that the reading takes, are together of bulk at most 1048576: NARROWER than '..Said'. Prove '..Said' where nothing that the law and all that it calls make is longer than what came in: it says more and counts as full. Else prove '..UptoSaid'. A law counts once. -/
mutual
def uptoBulk {H : Type} : DataW H → Nat
  | .lit (.string bytes) => bytes.length + 1
  | .lit _ => 1
  | .nil => 1
  | .ptr d => uptoBulk d + 1
  | .slice elems spare => uptoBulkAll elems + uptoBulkAll spare + 1
  | .agg parts => uptoBulkAll parts + 1
  | .iface _ d => uptoBulk d + 1
  | .map entries => uptoBulkEntries entries + 1
  | .held _ => 1
def uptoBulkAll {H : Type} : List (DataW H) → Nat
  | [] => 0
  | d :: r => uptoBulk d + uptoBulkAll r
def uptoBulkEntries {H : Type} : List (Lit × DataW H) → Nat
  | [] => 0
  | x :: r => uptoBulkEntry x + uptoBulkEntries r
def uptoBulkEntry {H : Type} : Lit × DataW H → Nat
  | (.string bytes, d) => bytes.length + uptoBulk d + 1
  | (_, d) => uptoBulk d + 1
 end
def uptoSmall : (H : Type) → List (DataW H) → Bool := fun _ ds => decide (uptoBulkAll ds ≤ 1048576)
def OpenSpec.upto (s : _root_.Go.ChangeSpec) : _root_.Go.OpenSpec := { _root_.Go.OpenSpec.ofChange s with cond := some uptoSmall }

/-- 'attestorlaw10.TranscriptIndicesMatchReference', WHERE WHAT IT READS IS OF BULK AT MOST 1048576: true; the input reads as it did. -/
def transcriptIndicesMatchReferenceUptoRow : OpenClaim := { program := "ytemodkjmdalmlaadoor", sum := "d82948a6f265e5a9d6d40e21dba798322f3ac0454bba8b73d5e2bc0e1decddff", func := "attestor/attestorlaw10.TranscriptIndicesMatchReference", spec := "transcriptIndicesMatchReference", unfollowed := true, recurses := true, named := ["attestor/sha256.initial", "attestor/sha256.constants"], apart := false, laid := [("attestor/sha256.constants", laid_attestor_sha256_constants), ("attestor/sha256.initial", laid_attestor_sha256_initial)], narrowed := true }
def TranscriptIndicesMatchReferenceUptoSaid : Prop := transcriptIndicesMatchReferenceUptoRow.holds Tryd.pinned (OpenSpec.upto transcriptIndicesMatchReferenceSpec)

/-- 'attestorlaw10.TranscriptBytes', WHERE WHAT IT READS IS OF BULK AT MOST 1048576: true; the input reads as it did. -/
def transcriptBytesUptoRow : OpenClaim := { program := "ytemodkjmdalmlaadoor", sum := "d82948a6f265e5a9d6d40e21dba798322f3ac0454bba8b73d5e2bc0e1decddff", func := "attestor/attestorlaw10.TranscriptBytes", spec := "transcriptBytes", unfollowed := true, recurses := true, named := ["attestor/sha256.initial", "attestor/sha256.constants"], apart := false, laid := [("attestor/sha256.constants", laid_attestor_sha256_constants), ("attestor/sha256.initial", laid_attestor_sha256_initial)], narrowed := true }
def TranscriptBytesUptoSaid : Prop := transcriptBytesUptoRow.holds Tryd.pinned (OpenSpec.upto transcriptBytesSpec)

/-- 'attestorlaw10.TranscriptChallenges', WHERE WHAT IT READS IS OF BULK AT MOST 1048576: true; the input reads as it did. -/
def transcriptChallengesUptoRow : OpenClaim := { program := "ytemodkjmdalmlaadoor", sum := "d82948a6f265e5a9d6d40e21dba798322f3ac0454bba8b73d5e2bc0e1decddff", func := "attestor/attestorlaw10.TranscriptChallenges", spec := "transcriptChallenges", unfollowed := true, recurses := true, named := ["attestor/sha256.initial", "attestor/sha256.constants"], apart := false, laid := [("attestor/sha256.constants", laid_attestor_sha256_constants), ("attestor/sha256.initial", laid_attestor_sha256_initial)], narrowed := true }
def TranscriptChallengesUptoSaid : Prop := transcriptChallengesUptoRow.holds Tryd.pinned (OpenSpec.upto transcriptChallengesSpec)

/-- 'attestorlaw10.TranscriptIndices', WHERE WHAT IT READS IS OF BULK AT MOST 1048576: true; the input reads as it did. -/
def transcriptIndicesUptoRow : OpenClaim := { program := "ytemodkjmdalmlaadoor", sum := "d82948a6f265e5a9d6d40e21dba798322f3ac0454bba8b73d5e2bc0e1decddff", func := "attestor/attestorlaw10.TranscriptIndices", spec := "transcriptIndices", unfollowed := true, recurses := true, named := ["attestor/sha256.initial", "attestor/sha256.constants"], apart := false, laid := [("attestor/sha256.constants", laid_attestor_sha256_constants), ("attestor/sha256.initial", laid_attestor_sha256_initial)], narrowed := true }
def TranscriptIndicesUptoSaid : Prop := transcriptIndicesUptoRow.holds Tryd.pinned (OpenSpec.upto transcriptIndicesSpec)

/-- 'attestorlaw10.TranscriptPermutation', WHERE WHAT IT READS IS OF BULK AT MOST 1048576: true; the input reads as it did. -/
def transcriptPermutationUptoRow : OpenClaim := { program := "ytemodkjmdalmlaadoor", sum := "d82948a6f265e5a9d6d40e21dba798322f3ac0454bba8b73d5e2bc0e1decddff", func := "attestor/attestorlaw10.TranscriptPermutation", spec := "transcriptPermutation", unfollowed := true, recurses := true, named := ["attestor/sha256.initial", "attestor/sha256.constants"], apart := false, laid := [("attestor/sha256.constants", laid_attestor_sha256_constants), ("attestor/sha256.initial", laid_attestor_sha256_initial)], narrowed := true }
def TranscriptPermutationUptoSaid : Prop := transcriptPermutationUptoRow.holds Tryd.pinned (OpenSpec.upto transcriptPermutationSpec)

/-- 'attestorlaw10.TranscriptHashInputs', WHERE WHAT IT READS IS OF BULK AT MOST 1048576: true; the input reads as it did. -/
def transcriptHashInputsUptoRow : OpenClaim := { program := "ytemodkjmdalmlaadoor", sum := "d82948a6f265e5a9d6d40e21dba798322f3ac0454bba8b73d5e2bc0e1decddff", func := "attestor/attestorlaw10.TranscriptHashInputs", spec := "transcriptHashInputs", unfollowed := true, recurses := true, named := ["attestor/sha256.initial", "attestor/sha256.constants"], apart := false, laid := [("attestor/sha256.constants", laid_attestor_sha256_constants), ("attestor/sha256.initial", laid_attestor_sha256_initial)], narrowed := true }
def TranscriptHashInputsUptoSaid : Prop := transcriptHashInputsUptoRow.holds Tryd.pinned (OpenSpec.upto transcriptHashInputsSpec)

/-- 'attestorlaw10.TranscriptMatchesReference', WHERE WHAT IT READS IS OF BULK AT MOST 1048576: true; the input reads as it did. -/
def transcriptMatchesReferenceUptoRow : OpenClaim := { program := "ytemodkjmdalmlaadoor", sum := "d82948a6f265e5a9d6d40e21dba798322f3ac0454bba8b73d5e2bc0e1decddff", func := "attestor/attestorlaw10.TranscriptMatchesReference", spec := "transcriptMatchesReference", unfollowed := true, recurses := true, named := ["attestor/sha256.initial", "attestor/sha256.constants"], apart := false, laid := [("attestor/sha256.constants", laid_attestor_sha256_constants), ("attestor/sha256.initial", laid_attestor_sha256_initial)], narrowed := true }
def TranscriptMatchesReferenceUptoSaid : Prop := transcriptMatchesReferenceUptoRow.holds Tryd.pinned (OpenSpec.upto transcriptMatchesReferenceSpec)

/-- 'attestorlaw10.TranscriptState', WHERE WHAT IT READS IS OF BULK AT MOST 1048576: true; the input reads as it did. -/
def transcriptStateUptoRow : OpenClaim := { program := "ytemodkjmdalmlaadoor", sum := "d82948a6f265e5a9d6d40e21dba798322f3ac0454bba8b73d5e2bc0e1decddff", func := "attestor/attestorlaw10.TranscriptState", spec := "transcriptState", unfollowed := true, recurses := true, named := ["attestor/sha256.initial", "attestor/sha256.constants"], apart := false, laid := [("attestor/sha256.constants", laid_attestor_sha256_constants), ("attestor/sha256.initial", laid_attestor_sha256_initial)], narrowed := true }
def TranscriptStateUptoSaid : Prop := transcriptStateUptoRow.holds Tryd.pinned (OpenSpec.upto transcriptStateSpec)

end Rows
end Go.Proofs.YtemodkjmdalmlaaDoor
