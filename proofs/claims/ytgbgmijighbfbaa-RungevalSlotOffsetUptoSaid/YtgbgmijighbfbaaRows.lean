/-
  No cell of these rows narrows 'for every input' (looked for: loops, veiled, ifaces, maps, wideKeys, modest, calm, conditions, laid).
  DERIVED. THE GIVEN ROWS OF THIS SEAT. 7 by the template 'for every input the law returns true; each argument reads behind the call as it read before'; 0 by the template 'total and deterministic' (their statements: YtgbgmijighbfbaaTotals.lean).
  GIVEN WITH THE SEED: the statements are not yours to turn. If you find one false, say at which input.
  Laid BY PROGRAM, IN A SANDBOX (cutbox-rows.mjs): the forced cells as the released guide's own fill.sh prints them over the translation 210fda4a3431dfb2… (all of the seat's roots in one cut). By AI agents, Wed Nov 11 2026. No macro, syntax, notation, axiom, sorry.
-/
import Derived.Test.YtgbgmijighbfbaaChecked
import GoSem.Claim
import GoSem.ClaimJoined
import GoSem.ClaimMapViews
import Derived.JoinedTies
import Derived.KernelRfl
namespace Go.Proofs.Ytgbgmijighbfbaa
/- THE CELL 'sum', in the pinned program and in every row, IS THE sha256 OF THE DUMP (.gsa) THAT YtgbgmijighbfbaaProg.lean LOADS. Nothing in Lean hashes anything: it is a label: what it is worth is what the hold of that sum in a sandbox is worth. -/
noncomputable def Try.pinned : Pinned := { name := "ytgbgmijighbfbaa", sum := "210fda4a3431dfb245dc50637d8712524207857c962a675633264e42fcf39348", checked := Try.checked }
namespace Rows
def none {H : Type} : Left H := { results := [], args := [] }

/-- 'busbarlaw16.RungevalConductsMatchesReference': WHATEVER THE INPUT: true; the input reads as it did. -/
def rungevalConductsMatchesReferenceSpec : ChangeSpec := { name := "rungevalConductsMatchesReference", fn := fun _ => fun
  | [d1, d2] => { results := [.lit (.bool true)], args := [d1, d2] }
  | _ => none }
def rungevalConductsMatchesReferenceRow : OpenClaim := { program := "ytgbgmijighbfbaa", sum := "210fda4a3431dfb245dc50637d8712524207857c962a675633264e42fcf39348", func := "busbar/busbarlaw16.RungevalConductsMatchesReference", spec := "rungevalConductsMatchesReference", plainKeys := false, apart := false }
def RungevalConductsMatchesReferenceSaid : Prop := rungevalConductsMatchesReferenceRow.holds Try.pinned (OpenSpec.ofChange rungevalConductsMatchesReferenceSpec)

/-- ITS FALSE NEIGHBOUR: 'it returns false'. Refute it at one input. -/
def rungevalConductsMatchesReferenceWrong : ChangeSpec := { name := "rungevalConductsMatchesReference", fn := fun _ => fun
  | [d1, d2] => { results := [.lit (.bool false)], args := [d1, d2] }
  | _ => none }
def RungevalConductsMatchesReferenceWrongFalsely : Prop := rungevalConductsMatchesReferenceRow.holds Try.pinned (OpenSpec.ofChange rungevalConductsMatchesReferenceWrong)

/-- 'busbarlaw16.RungevalScanMatchesReference': WHATEVER THE INPUT: true; the input reads as it did. -/
def rungevalScanMatchesReferenceSpec : ChangeSpec := { name := "rungevalScanMatchesReference", fn := fun _ => fun
  | [d1, d2, d3] => { results := [.lit (.bool true)], args := [d1, d2, d3] }
  | _ => none }
def rungevalScanMatchesReferenceRow : OpenClaim := { program := "ytgbgmijighbfbaa", sum := "210fda4a3431dfb245dc50637d8712524207857c962a675633264e42fcf39348", func := "busbar/busbarlaw16.RungevalScanMatchesReference", spec := "rungevalScanMatchesReference", plainKeys := false, apart := false }
def RungevalScanMatchesReferenceSaid : Prop := rungevalScanMatchesReferenceRow.holds Try.pinned (OpenSpec.ofChange rungevalScanMatchesReferenceSpec)

/-- ITS FALSE NEIGHBOUR: 'it returns false'. Refute it at one input. -/
def rungevalScanMatchesReferenceWrong : ChangeSpec := { name := "rungevalScanMatchesReference", fn := fun _ => fun
  | [d1, d2, d3] => { results := [.lit (.bool false)], args := [d1, d2, d3] }
  | _ => none }
def RungevalScanMatchesReferenceWrongFalsely : Prop := rungevalScanMatchesReferenceRow.holds Try.pinned (OpenSpec.ofChange rungevalScanMatchesReferenceWrong)

/-- 'busbarlaw16.RungevalEdgesOnce': WHATEVER THE INPUT: true; the input reads as it did. -/
def rungevalEdgesOnceSpec : ChangeSpec := { name := "rungevalEdgesOnce", fn := fun _ => fun
  | [d1, d2, d3] => { results := [.lit (.bool true)], args := [d1, d2, d3] }
  | _ => none }
def rungevalEdgesOnceRow : OpenClaim := { program := "ytgbgmijighbfbaa", sum := "210fda4a3431dfb245dc50637d8712524207857c962a675633264e42fcf39348", func := "busbar/busbarlaw16.RungevalEdgesOnce", spec := "rungevalEdgesOnce", plainKeys := false, apart := false }
def RungevalEdgesOnceSaid : Prop := rungevalEdgesOnceRow.holds Try.pinned (OpenSpec.ofChange rungevalEdgesOnceSpec)

/-- ITS FALSE NEIGHBOUR: 'it returns false'. Refute it at one input. -/
def rungevalEdgesOnceWrong : ChangeSpec := { name := "rungevalEdgesOnce", fn := fun _ => fun
  | [d1, d2, d3] => { results := [.lit (.bool false)], args := [d1, d2, d3] }
  | _ => none }
def RungevalEdgesOnceWrongFalsely : Prop := rungevalEdgesOnceRow.holds Try.pinned (OpenSpec.ofChange rungevalEdgesOnceWrong)

/-- 'busbarlaw16.RungevalIsMonotone': WHATEVER THE INPUT: true; the input reads as it did. -/
def rungevalIsMonotoneSpec : ChangeSpec := { name := "rungevalIsMonotone", fn := fun _ => fun
  | [d1, d2, d3] => { results := [.lit (.bool true)], args := [d1, d2, d3] }
  | _ => none }
def rungevalIsMonotoneRow : OpenClaim := { program := "ytgbgmijighbfbaa", sum := "210fda4a3431dfb245dc50637d8712524207857c962a675633264e42fcf39348", func := "busbar/busbarlaw16.RungevalIsMonotone", spec := "rungevalIsMonotone", plainKeys := false, apart := false }
def RungevalIsMonotoneSaid : Prop := rungevalIsMonotoneRow.holds Try.pinned (OpenSpec.ofChange rungevalIsMonotoneSpec)

/-- ITS FALSE NEIGHBOUR: 'it returns false'. Refute it at one input. -/
def rungevalIsMonotoneWrong : ChangeSpec := { name := "rungevalIsMonotone", fn := fun _ => fun
  | [d1, d2, d3] => { results := [.lit (.bool false)], args := [d1, d2, d3] }
  | _ => none }
def RungevalIsMonotoneWrongFalsely : Prop := rungevalIsMonotoneRow.holds Try.pinned (OpenSpec.ofChange rungevalIsMonotoneWrong)

/-- 'busbarlaw16.RungevalLastCoilWins': WHATEVER THE INPUT: true; the input reads as it did. -/
def rungevalLastCoilWinsSpec : ChangeSpec := { name := "rungevalLastCoilWins", fn := fun _ => fun
  | [d1, d2, d3] => { results := [.lit (.bool true)], args := [d1, d2, d3] }
  | _ => none }
def rungevalLastCoilWinsRow : OpenClaim := { program := "ytgbgmijighbfbaa", sum := "210fda4a3431dfb245dc50637d8712524207857c962a675633264e42fcf39348", func := "busbar/busbarlaw16.RungevalLastCoilWins", spec := "rungevalLastCoilWins", plainKeys := false, apart := false }
def RungevalLastCoilWinsSaid : Prop := rungevalLastCoilWinsRow.holds Try.pinned (OpenSpec.ofChange rungevalLastCoilWinsSpec)

/-- ITS FALSE NEIGHBOUR: 'it returns false'. Refute it at one input. -/
def rungevalLastCoilWinsWrong : ChangeSpec := { name := "rungevalLastCoilWins", fn := fun _ => fun
  | [d1, d2, d3] => { results := [.lit (.bool false)], args := [d1, d2, d3] }
  | _ => none }
def RungevalLastCoilWinsWrongFalsely : Prop := rungevalLastCoilWinsRow.holds Try.pinned (OpenSpec.ofChange rungevalLastCoilWinsWrong)

/-- 'busbarlaw16.RungevalContactsMatchReference': WHATEVER THE INPUT: true; the input reads as it did. -/
def rungevalContactsMatchReferenceSpec : ChangeSpec := { name := "rungevalContactsMatchReference", fn := fun _ => fun
  | [d1, d2, d3] => { results := [.lit (.bool true)], args := [d1, d2, d3] }
  | _ => none }
def rungevalContactsMatchReferenceRow : OpenClaim := { program := "ytgbgmijighbfbaa", sum := "210fda4a3431dfb245dc50637d8712524207857c962a675633264e42fcf39348", func := "busbar/busbarlaw16.RungevalContactsMatchReference", spec := "rungevalContactsMatchReference", plainKeys := false, apart := false }
def RungevalContactsMatchReferenceSaid : Prop := rungevalContactsMatchReferenceRow.holds Try.pinned (OpenSpec.ofChange rungevalContactsMatchReferenceSpec)

/-- ITS FALSE NEIGHBOUR: 'it returns false'. Refute it at one input. -/
def rungevalContactsMatchReferenceWrong : ChangeSpec := { name := "rungevalContactsMatchReference", fn := fun _ => fun
  | [d1, d2, d3] => { results := [.lit (.bool false)], args := [d1, d2, d3] }
  | _ => none }
def RungevalContactsMatchReferenceWrongFalsely : Prop := rungevalContactsMatchReferenceRow.holds Try.pinned (OpenSpec.ofChange rungevalContactsMatchReferenceWrong)

/-- 'busbarlaw16.RungevalSlotOffset': WHATEVER THE INPUT: true; the input reads as it did. -/
def rungevalSlotOffsetSpec : ChangeSpec := { name := "rungevalSlotOffset", fn := fun _ => fun
  | [d1, d2, d3] => { results := [.lit (.bool true)], args := [d1, d2, d3] }
  | _ => none }
def rungevalSlotOffsetRow : OpenClaim := { program := "ytgbgmijighbfbaa", sum := "210fda4a3431dfb245dc50637d8712524207857c962a675633264e42fcf39348", func := "busbar/busbarlaw16.RungevalSlotOffset", spec := "rungevalSlotOffset", plainKeys := false, apart := false }
def RungevalSlotOffsetSaid : Prop := rungevalSlotOffsetRow.holds Try.pinned (OpenSpec.ofChange rungevalSlotOffsetSpec)

/-- ITS FALSE NEIGHBOUR: 'it returns false'. Refute it at one input. -/
def rungevalSlotOffsetWrong : ChangeSpec := { name := "rungevalSlotOffset", fn := fun _ => fun
  | [d1, d2, d3] => { results := [.lit (.bool false)], args := [d1, d2, d3] }
  | _ => none }
def RungevalSlotOffsetWrongFalsely : Prop := rungevalSlotOffsetRow.holds Try.pinned (OpenSpec.ofChange rungevalSlotOffsetWrong)

/- THE SECOND FORM. 'bulk': how many values and letters a reading holds, each counted each time it is reached (what is shared counts as often as it is met; a slice's spare places count too). A statement '..UptoSaid' is the law's where the arguments, and the package variables that the reading takes, are together of bulk at most 1048576: NARROWER than '..Said'. Prove '..Said' where nothing that the law and all that it calls make is longer than what came in: it says more and counts as full. Else prove '..UptoSaid'. A law counts once. -/
mutual
def uptoBulk {H : Type} : DataW H → Nat
  | .lit (.string bytes) => bytes.length + 1
  | .lit _ => 1
  | .nil => 1
  | .ptr d => uptoBulk d + 1
  | .slice elems spare => uptoBulkAll elems + uptoBulkAll spare + 1
  | .agg parts => uptoBulkAll parts + 1
  | .iface _ d => uptoBulk d + 1
  | .map entries => uptoBulkEntries entries + 1
  | .held _ => 1
def uptoBulkAll {H : Type} : List (DataW H) → Nat
  | [] => 0
  | d :: r => uptoBulk d + uptoBulkAll r
def uptoBulkEntries {H : Type} : List (Lit × DataW H) → Nat
  | [] => 0
  | x :: r => uptoBulkEntry x + uptoBulkEntries r
def uptoBulkEntry {H : Type} : Lit × DataW H → Nat
  | (.string bytes, d) => bytes.length + uptoBulk d + 1
  | (_, d) => uptoBulk d + 1
 end
def uptoSmall : (H : Type) → List (DataW H) → Bool := fun _ ds => decide (uptoBulkAll ds ≤ 1048576)
def OpenSpec.upto (s : _root_.Go.ChangeSpec) : _root_.Go.OpenSpec := { _root_.Go.OpenSpec.ofChange s with cond := some uptoSmall }

/-- 'busbarlaw16.RungevalConductsMatchesReference', WHERE WHAT IT READS IS OF BULK AT MOST 1048576: true; the input reads as it did. -/
def rungevalConductsMatchesReferenceUptoRow : OpenClaim := { program := "ytgbgmijighbfbaa", sum := "210fda4a3431dfb245dc50637d8712524207857c962a675633264e42fcf39348", func := "busbar/busbarlaw16.RungevalConductsMatchesReference", spec := "rungevalConductsMatchesReference", plainKeys := false, apart := false, narrowed := true }
def RungevalConductsMatchesReferenceUptoSaid : Prop := rungevalConductsMatchesReferenceUptoRow.holds Try.pinned (OpenSpec.upto rungevalConductsMatchesReferenceSpec)

/-- 'busbarlaw16.RungevalScanMatchesReference', WHERE WHAT IT READS IS OF BULK AT MOST 1048576: true; the input reads as it did. -/
def rungevalScanMatchesReferenceUptoRow : OpenClaim := { program := "ytgbgmijighbfbaa", sum := "210fda4a3431dfb245dc50637d8712524207857c962a675633264e42fcf39348", func := "busbar/busbarlaw16.RungevalScanMatchesReference", spec := "rungevalScanMatchesReference", plainKeys := false, apart := false, narrowed := true }
def RungevalScanMatchesReferenceUptoSaid : Prop := rungevalScanMatchesReferenceUptoRow.holds Try.pinned (OpenSpec.upto rungevalScanMatchesReferenceSpec)

/-- 'busbarlaw16.RungevalEdgesOnce', WHERE WHAT IT READS IS OF BULK AT MOST 1048576: true; the input reads as it did. -/
def rungevalEdgesOnceUptoRow : OpenClaim := { program := "ytgbgmijighbfbaa", sum := "210fda4a3431dfb245dc50637d8712524207857c962a675633264e42fcf39348", func := "busbar/busbarlaw16.RungevalEdgesOnce", spec := "rungevalEdgesOnce", plainKeys := false, apart := false, narrowed := true }
def RungevalEdgesOnceUptoSaid : Prop := rungevalEdgesOnceUptoRow.holds Try.pinned (OpenSpec.upto rungevalEdgesOnceSpec)

/-- 'busbarlaw16.RungevalIsMonotone', WHERE WHAT IT READS IS OF BULK AT MOST 1048576: true; the input reads as it did. -/
def rungevalIsMonotoneUptoRow : OpenClaim := { program := "ytgbgmijighbfbaa", sum := "210fda4a3431dfb245dc50637d8712524207857c962a675633264e42fcf39348", func := "busbar/busbarlaw16.RungevalIsMonotone", spec := "rungevalIsMonotone", plainKeys := false, apart := false, narrowed := true }
def RungevalIsMonotoneUptoSaid : Prop := rungevalIsMonotoneUptoRow.holds Try.pinned (OpenSpec.upto rungevalIsMonotoneSpec)

/-- 'busbarlaw16.RungevalLastCoilWins', WHERE WHAT IT READS IS OF BULK AT MOST 1048576: true; the input reads as it did. -/
def rungevalLastCoilWinsUptoRow : OpenClaim := { program := "ytgbgmijighbfbaa", sum := "210fda4a3431dfb245dc50637d8712524207857c962a675633264e42fcf39348", func := "busbar/busbarlaw16.RungevalLastCoilWins", spec := "rungevalLastCoilWins", plainKeys := false, apart := false, narrowed := true }
def RungevalLastCoilWinsUptoSaid : Prop := rungevalLastCoilWinsUptoRow.holds Try.pinned (OpenSpec.upto rungevalLastCoilWinsSpec)

/-- 'busbarlaw16.RungevalContactsMatchReference', WHERE WHAT IT READS IS OF BULK AT MOST 1048576: true; the input reads as it did. -/
def rungevalContactsMatchReferenceUptoRow : OpenClaim := { program := "ytgbgmijighbfbaa", sum := "210fda4a3431dfb245dc50637d8712524207857c962a675633264e42fcf39348", func := "busbar/busbarlaw16.RungevalContactsMatchReference", spec := "rungevalContactsMatchReference", plainKeys := false, apart := false, narrowed := true }
def RungevalContactsMatchReferenceUptoSaid : Prop := rungevalContactsMatchReferenceUptoRow.holds Try.pinned (OpenSpec.upto rungevalContactsMatchReferenceSpec)

/-- 'busbarlaw16.RungevalSlotOffset', WHERE WHAT IT READS IS OF BULK AT MOST 1048576: true; the input reads as it did. -/
def rungevalSlotOffsetUptoRow : OpenClaim := { program := "ytgbgmijighbfbaa", sum := "210fda4a3431dfb245dc50637d8712524207857c962a675633264e42fcf39348", func := "busbar/busbarlaw16.RungevalSlotOffset", spec := "rungevalSlotOffset", plainKeys := false, apart := false, narrowed := true }
def RungevalSlotOffsetUptoSaid : Prop := rungevalSlotOffsetUptoRow.holds Try.pinned (OpenSpec.upto rungevalSlotOffsetSpec)

end Rows
end Go.Proofs.Ytgbgmijighbfbaa
