/-
  DERIVED. GIVEN WITH THE SEED: THE CARDS: each row of YtaebdeidbibfkaaDoorRows.lean that lists a variable, with what it lists TIED to the program's text (the seventh form; the later family's looks); each row that meets fmt, with fmt's text TOLD by the authors' own Lean function (tested against real Go, not proved from fmt's source: count such statements apart). THE CARD IS WHAT COUNTS. Prove the row's statement (the work); the ties are given (YtaebdeidbibfkaaDoorTie.lean); close each card by the builder's one call (the guide's Derived/Test/ToyasCard.lean, 'card_holds'). Laid BY PROGRAM, IN A SANDBOX (cutbox-door.mjs). By AI agents, Wed Nov 11 2026. No macro, syntax, notation, axiom, sorry.
-/
import Derived.Test.YtaebdeidbibfkaaDoorRows
import GoSem.ClaimSeven
namespace Go.Proofs.YtaebdeidbibfkaaDoor
namespace Rows

/-- THE TIED CARD OF 'busbarlaw15.ReduceOrderIndependent'. -/
def reduceOrderIndependentCard : Claim7 := { stood := { row := reduceOrderIndependentRow, standIns := [], harness := (true, "b685fd40543c7edcf32e1f5fbaca296818d73f3f3b0390a98367f5f98665b951"), looks := false }, kinds := [], alts := [], laidByText := true, laidKinds := [.data, .data, .data, .data], laidTests := true, laidLooks := .later }
def ReduceOrderIndependentCardSaid : Prop := Claim7.holds Tryd.pinned (.plain (OpenSpec.ofChange reduceOrderIndependentSpec)) reduceOrderIndependentCard

/-- THE TIED CARD OF 'busbarlaw15.ReduceChains'. -/
def reduceChainsCard : Claim7 := { stood := { row := reduceChainsRow, standIns := [], harness := (true, "b685fd40543c7edcf32e1f5fbaca296818d73f3f3b0390a98367f5f98665b951"), looks := false }, kinds := [], alts := [], laidByText := true, laidKinds := [.data, .data, .data, .data], laidTests := true, laidLooks := .later }
def ReduceChainsCardSaid : Prop := Claim7.holds Tryd.pinned (.plain (OpenSpec.ofChange reduceChainsSpec)) reduceChainsCard

/-- THE TIED CARD OF 'busbarlaw17.CodegenWithoutPush'. -/
def codegenWithoutPushCard : Claim7 := { stood := { row := codegenWithoutPushRow, standIns := [], harness := (true, "b685fd40543c7edcf32e1f5fbaca296818d73f3f3b0390a98367f5f98665b951"), looks := false }, kinds := [], alts := [], laidByText := true, laidKinds := [.data, .data, .data, .data], laidTests := true, laidLooks := .later }
def CodegenWithoutPushCardSaid : Prop := Claim7.holds Tryd.pinned (.plain (OpenSpec.ofChange codegenWithoutPushSpec)) codegenWithoutPushCard

/-- THE TIED CARD OF 'busbarlaw17.CodegenSlotOffset'. -/
def codegenSlotOffsetCard : Claim7 := { stood := { row := codegenSlotOffsetRow, standIns := [], harness := (true, "b685fd40543c7edcf32e1f5fbaca296818d73f3f3b0390a98367f5f98665b951"), looks := false }, kinds := [], alts := [], laidByText := true, laidKinds := [.data, .data, .data, .data], laidTests := true, laidLooks := .later }
def CodegenSlotOffsetCardSaid : Prop := Claim7.holds Tryd.pinned (.plain (OpenSpec.ofChange codegenSlotOffsetSpec)) codegenSlotOffsetCard

/-- THE TIED CARD OF 'busbarlaw17.CodegenJumpTargets'. -/
def codegenJumpTargetsCard : Claim7 := { stood := { row := codegenJumpTargetsRow, standIns := [], harness := (true, "b685fd40543c7edcf32e1f5fbaca296818d73f3f3b0390a98367f5f98665b951"), looks := false }, kinds := [], alts := [], laidByText := true, laidKinds := [.data, .data, .data, .data], laidTests := true, laidLooks := .later }
def CodegenJumpTargetsCardSaid : Prop := Claim7.holds Tryd.pinned (.plain (OpenSpec.ofChange codegenJumpTargetsSpec)) codegenJumpTargetsCard

/-- THE TIED CARD OF 'busbarlaw15.ReduceIsStable'. -/
def reduceIsStableCard : Claim7 := { stood := { row := reduceIsStableRow, standIns := [], harness := (true, "b685fd40543c7edcf32e1f5fbaca296818d73f3f3b0390a98367f5f98665b951"), looks := false }, kinds := [], alts := [], laidByText := true, laidKinds := [.data, .data, .data, .data], laidTests := true, laidLooks := .later }
def ReduceIsStableCardSaid : Prop := Claim7.holds Tryd.pinned (.plain (OpenSpec.ofChange reduceIsStableSpec)) reduceIsStableCard

/-- THE SECOND FORM's CARD OF 'busbarlaw15.ReduceOrderIndependent'. -/
def reduceOrderIndependentUptoCard : Claim7 := { stood := { row := reduceOrderIndependentUptoRow, standIns := [], harness := (true, "b685fd40543c7edcf32e1f5fbaca296818d73f3f3b0390a98367f5f98665b951"), looks := false }, kinds := [], alts := [], laidByText := true, laidKinds := [.data, .data, .data, .data], laidTests := true, laidLooks := .later }
def ReduceOrderIndependentUptoCardSaid : Prop := Claim7.holds Tryd.pinned (.plain (OpenSpec.upto reduceOrderIndependentSpec)) reduceOrderIndependentUptoCard

/-- THE SECOND FORM's CARD OF 'busbarlaw15.ReduceChains'. -/
def reduceChainsUptoCard : Claim7 := { stood := { row := reduceChainsUptoRow, standIns := [], harness := (true, "b685fd40543c7edcf32e1f5fbaca296818d73f3f3b0390a98367f5f98665b951"), looks := false }, kinds := [], alts := [], laidByText := true, laidKinds := [.data, .data, .data, .data], laidTests := true, laidLooks := .later }
def ReduceChainsUptoCardSaid : Prop := Claim7.holds Tryd.pinned (.plain (OpenSpec.upto reduceChainsSpec)) reduceChainsUptoCard

/-- THE SECOND FORM's CARD OF 'busbarlaw17.CodegenWithoutPush'. -/
def codegenWithoutPushUptoCard : Claim7 := { stood := { row := codegenWithoutPushUptoRow, standIns := [], harness := (true, "b685fd40543c7edcf32e1f5fbaca296818d73f3f3b0390a98367f5f98665b951"), looks := false }, kinds := [], alts := [], laidByText := true, laidKinds := [.data, .data, .data, .data], laidTests := true, laidLooks := .later }
def CodegenWithoutPushUptoCardSaid : Prop := Claim7.holds Tryd.pinned (.plain (OpenSpec.upto codegenWithoutPushSpec)) codegenWithoutPushUptoCard

/-- THE SECOND FORM's CARD OF 'busbarlaw17.CodegenSlotOffset'. -/
def codegenSlotOffsetUptoCard : Claim7 := { stood := { row := codegenSlotOffsetUptoRow, standIns := [], harness := (true, "b685fd40543c7edcf32e1f5fbaca296818d73f3f3b0390a98367f5f98665b951"), looks := false }, kinds := [], alts := [], laidByText := true, laidKinds := [.data, .data, .data, .data], laidTests := true, laidLooks := .later }
def CodegenSlotOffsetUptoCardSaid : Prop := Claim7.holds Tryd.pinned (.plain (OpenSpec.upto codegenSlotOffsetSpec)) codegenSlotOffsetUptoCard

/-- THE SECOND FORM's CARD OF 'busbarlaw17.CodegenJumpTargets'. -/
def codegenJumpTargetsUptoCard : Claim7 := { stood := { row := codegenJumpTargetsUptoRow, standIns := [], harness := (true, "b685fd40543c7edcf32e1f5fbaca296818d73f3f3b0390a98367f5f98665b951"), looks := false }, kinds := [], alts := [], laidByText := true, laidKinds := [.data, .data, .data, .data], laidTests := true, laidLooks := .later }
def CodegenJumpTargetsUptoCardSaid : Prop := Claim7.holds Tryd.pinned (.plain (OpenSpec.upto codegenJumpTargetsSpec)) codegenJumpTargetsUptoCard

/-- THE SECOND FORM's CARD OF 'busbarlaw15.ReduceIsStable'. -/
def reduceIsStableUptoCard : Claim7 := { stood := { row := reduceIsStableUptoRow, standIns := [], harness := (true, "b685fd40543c7edcf32e1f5fbaca296818d73f3f3b0390a98367f5f98665b951"), looks := false }, kinds := [], alts := [], laidByText := true, laidKinds := [.data, .data, .data, .data], laidTests := true, laidLooks := .later }
def ReduceIsStableUptoCardSaid : Prop := Claim7.holds Tryd.pinned (.plain (OpenSpec.upto reduceIsStableSpec)) reduceIsStableUptoCard
end Rows
end Go.Proofs.YtaebdeidbibfkaaDoor
