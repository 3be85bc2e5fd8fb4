/-
  DERIVED. GIVEN WITH THE SEED: THE CARDS: each row of YtaebdeidbibfkaaGreatDoorRows.lean that lists a variable, with what it lists TIED to the program's text (the seventh form; the later family's looks); each row that meets fmt, with fmt's text TOLD by the authors' own Lean function (tested against real Go, not proved from fmt's source: count such statements apart). THE CARD IS WHAT COUNTS. Prove the row's statement (the work); the ties are given (YtaebdeidbibfkaaGreatDoorTie.lean); close each card by the builder's one call (the guide's Derived/Test/ToyasCard.lean, 'card_holds'). Laid BY PROGRAM, IN A SANDBOX (cutbox-door.mjs). By AI agents, Wed Nov 11 2026. No macro, syntax, notation, axiom, sorry.
-/
import Derived.Test.YtaebdeidbibfkaaGreatDoorRows
import GoSem.ClaimSeven
namespace Go.Proofs.YtaebdeidbibfkaaGreatDoor
namespace Rows

/-- THE TIED CARD OF 'busbarlaw15.ReduceMatchesReference'. -/
def reduceMatchesReferenceCard : Claim7 := { stood := { row := reduceMatchesReferenceRow, standIns := [], harness := (true, "ba1f04f126246aa1f750b532b17bfb3276d96e538b47de19073b43cba29ea094"), looks := false }, kinds := [], alts := [], laidByText := true, laidKinds := [.data, .data, .data, .data], laidTests := true, laidLooks := .later }
def ReduceMatchesReferenceCardSaid : Prop := Claim7.holds Tryz.pinned (.plain (OpenSpec.ofChange reduceMatchesReferenceSpec)) reduceMatchesReferenceCard

/-- THE TIED CARD OF 'busbarlaw17.CodegenTreeMatchesReference'. -/
def codegenTreeMatchesReferenceCard : Claim7 := { stood := { row := codegenTreeMatchesReferenceRow, standIns := [], harness := (true, "ba1f04f126246aa1f750b532b17bfb3276d96e538b47de19073b43cba29ea094"), looks := false }, kinds := [], alts := [], laidByText := true, laidKinds := [.data, .data, .data, .data], laidTests := true, laidLooks := .later }
def CodegenTreeMatchesReferenceCardSaid : Prop := Claim7.holds Tryz.pinned (.plain (OpenSpec.ofChange codegenTreeMatchesReferenceSpec)) codegenTreeMatchesReferenceCard

/-- THE TIED CARD OF 'busbarlaw17.CodegenLadderMatchesReference'. -/
def codegenLadderMatchesReferenceCard : Claim7 := { stood := { row := codegenLadderMatchesReferenceRow, standIns := [], harness := (true, "ba1f04f126246aa1f750b532b17bfb3276d96e538b47de19073b43cba29ea094"), looks := false }, kinds := [], alts := [], laidByText := true, laidKinds := [.data, .data, .data, .data], laidTests := true, laidLooks := .later }
def CodegenLadderMatchesReferenceCardSaid : Prop := Claim7.holds Tryz.pinned (.plain (OpenSpec.ofChange codegenLadderMatchesReferenceSpec)) codegenLadderMatchesReferenceCard

/-- THE TIED CARD OF 'busbarlaw15.ReduceExpandMatchesReference'. -/
def reduceExpandMatchesReferenceCard : Claim7 := { stood := { row := reduceExpandMatchesReferenceRow, standIns := [], harness := (true, "ba1f04f126246aa1f750b532b17bfb3276d96e538b47de19073b43cba29ea094"), looks := false }, kinds := [], alts := [], laidByText := true, laidKinds := [.data, .data, .data, .data], laidTests := true, laidLooks := .later }
def ReduceExpandMatchesReferenceCardSaid : Prop := Claim7.holds Tryz.pinned (.plain (OpenSpec.ofChange reduceExpandMatchesReferenceSpec)) reduceExpandMatchesReferenceCard

/-- THE TIED CARD OF 'busbarlaw15.ReduceInvertsExpand'. -/
def reduceInvertsExpandCard : Claim7 := { stood := { row := reduceInvertsExpandRow, standIns := [], harness := (true, "ba1f04f126246aa1f750b532b17bfb3276d96e538b47de19073b43cba29ea094"), looks := false }, kinds := [], alts := [], laidByText := true, laidKinds := [.data, .data, .data, .data], laidTests := true, laidLooks := .later }
def ReduceInvertsExpandCardSaid : Prop := Claim7.holds Tryz.pinned (.plain (OpenSpec.ofChange reduceInvertsExpandSpec)) reduceInvertsExpandCard

/-- THE SECOND FORM's CARD OF 'busbarlaw15.ReduceMatchesReference'. -/
def reduceMatchesReferenceUptoCard : Claim7 := { stood := { row := reduceMatchesReferenceUptoRow, standIns := [], harness := (true, "ba1f04f126246aa1f750b532b17bfb3276d96e538b47de19073b43cba29ea094"), looks := false }, kinds := [], alts := [], laidByText := true, laidKinds := [.data, .data, .data, .data], laidTests := true, laidLooks := .later }
def ReduceMatchesReferenceUptoCardSaid : Prop := Claim7.holds Tryz.pinned (.plain (OpenSpec.upto reduceMatchesReferenceSpec)) reduceMatchesReferenceUptoCard

/-- THE SECOND FORM's CARD OF 'busbarlaw17.CodegenTreeMatchesReference'. -/
def codegenTreeMatchesReferenceUptoCard : Claim7 := { stood := { row := codegenTreeMatchesReferenceUptoRow, standIns := [], harness := (true, "ba1f04f126246aa1f750b532b17bfb3276d96e538b47de19073b43cba29ea094"), looks := false }, kinds := [], alts := [], laidByText := true, laidKinds := [.data, .data, .data, .data], laidTests := true, laidLooks := .later }
def CodegenTreeMatchesReferenceUptoCardSaid : Prop := Claim7.holds Tryz.pinned (.plain (OpenSpec.upto codegenTreeMatchesReferenceSpec)) codegenTreeMatchesReferenceUptoCard

/-- THE SECOND FORM's CARD OF 'busbarlaw17.CodegenLadderMatchesReference'. -/
def codegenLadderMatchesReferenceUptoCard : Claim7 := { stood := { row := codegenLadderMatchesReferenceUptoRow, standIns := [], harness := (true, "ba1f04f126246aa1f750b532b17bfb3276d96e538b47de19073b43cba29ea094"), looks := false }, kinds := [], alts := [], laidByText := true, laidKinds := [.data, .data, .data, .data], laidTests := true, laidLooks := .later }
def CodegenLadderMatchesReferenceUptoCardSaid : Prop := Claim7.holds Tryz.pinned (.plain (OpenSpec.upto codegenLadderMatchesReferenceSpec)) codegenLadderMatchesReferenceUptoCard

/-- THE SECOND FORM's CARD OF 'busbarlaw15.ReduceExpandMatchesReference'. -/
def reduceExpandMatchesReferenceUptoCard : Claim7 := { stood := { row := reduceExpandMatchesReferenceUptoRow, standIns := [], harness := (true, "ba1f04f126246aa1f750b532b17bfb3276d96e538b47de19073b43cba29ea094"), looks := false }, kinds := [], alts := [], laidByText := true, laidKinds := [.data, .data, .data, .data], laidTests := true, laidLooks := .later }
def ReduceExpandMatchesReferenceUptoCardSaid : Prop := Claim7.holds Tryz.pinned (.plain (OpenSpec.upto reduceExpandMatchesReferenceSpec)) reduceExpandMatchesReferenceUptoCard

/-- THE SECOND FORM's CARD OF 'busbarlaw15.ReduceInvertsExpand'. -/
def reduceInvertsExpandUptoCard : Claim7 := { stood := { row := reduceInvertsExpandUptoRow, standIns := [], harness := (true, "ba1f04f126246aa1f750b532b17bfb3276d96e538b47de19073b43cba29ea094"), looks := false }, kinds := [], alts := [], laidByText := true, laidKinds := [.data, .data, .data, .data], laidTests := true, laidLooks := .later }
def ReduceInvertsExpandUptoCardSaid : Prop := Claim7.holds Tryz.pinned (.plain (OpenSpec.upto reduceInvertsExpandSpec)) reduceInvertsExpandUptoCard
end Rows
end Go.Proofs.YtaebdeidbibfkaaGreatDoor
