/-
  No cell of these rows narrows 'for every input' (looked for: loops, veiled, ifaces, maps, wideKeys, modest, calm, conditions, laid).
  DERIVED. THE GIVEN ROWS OF THIS SEAT. 6 by the template 'for every input the law returns true; each argument reads behind the call as it read before'; 0 by the template 'total and deterministic' (their statements: YtfghchpnolfllaaTotals.lean).
  GIVEN WITH THE SEED: the statements are not yours to turn. If you find one false, say at which input.
  Laid BY PROGRAM, IN A SANDBOX (cutbox-rows.mjs): the forced cells as the released guide's own fill.sh prints them over the translation cb5f1debf3fa0ee6… (all of the seat's roots in one cut). By AI agents, Wed Nov 11 2026. No macro, syntax, notation, axiom, sorry.
-/
import Derived.Test.YtfghchpnolfllaaChecked
import GoSem.Claim
import GoSem.ClaimJoined
import GoSem.ClaimMapViews
import Derived.JoinedTies
import Derived.KernelRfl
namespace Go.Proofs.Ytfghchpnolfllaa
/- THE CELL 'sum', in the pinned program and in every row, IS THE sha256 OF THE DUMP (.gsa) THAT YtfghchpnolfllaaProg.lean LOADS. Nothing in Lean hashes anything: it is a label: what it is worth is what the hold of that sum in a sandbox is worth. -/
noncomputable def Try.pinned : Pinned := { name := "ytfghchpnolfllaa", sum := "cb5f1debf3fa0ee6f5c59a33db36faa2fcf88bf1cb1e030a7da2d9a0919715a1", checked := Try.checked }
namespace Rows
def none {H : Type} : Left H := { results := [], args := [] }

/-- 'busbarlaw20.PathmodelScanMatchesReference': WHATEVER THE INPUT: true; the input reads as it did. -/
def pathmodelScanMatchesReferenceSpec : ChangeSpec := { name := "pathmodelScanMatchesReference", fn := fun _ => fun
  | [d1, d2, d3] => { results := [.lit (.bool true)], args := [d1, d2, d3] }
  | _ => none }
def pathmodelScanMatchesReferenceRow : OpenClaim := { program := "ytfghchpnolfllaa", sum := "cb5f1debf3fa0ee6f5c59a33db36faa2fcf88bf1cb1e030a7da2d9a0919715a1", func := "busbar/busbarlaw20.PathmodelScanMatchesReference", spec := "pathmodelScanMatchesReference", unfollowed := true, recurses := true, apart := false }
def PathmodelScanMatchesReferenceSaid : Prop := pathmodelScanMatchesReferenceRow.holds Try.pinned (OpenSpec.ofChange pathmodelScanMatchesReferenceSpec)

/-- ITS FALSE NEIGHBOUR: 'it returns false'. Refute it at one input. -/
def pathmodelScanMatchesReferenceWrong : ChangeSpec := { name := "pathmodelScanMatchesReference", fn := fun _ => fun
  | [d1, d2, d3] => { results := [.lit (.bool false)], args := [d1, d2, d3] }
  | _ => none }
def PathmodelScanMatchesReferenceWrongFalsely : Prop := pathmodelScanMatchesReferenceRow.holds Try.pinned (OpenSpec.ofChange pathmodelScanMatchesReferenceWrong)

/-- 'busbarlaw20.PathmodelExecutesAllRungs': WHATEVER THE INPUT: true; the input reads as it did. -/
def pathmodelExecutesAllRungsSpec : ChangeSpec := { name := "pathmodelExecutesAllRungs", fn := fun _ => fun
  | [d1, d2, d3] => { results := [.lit (.bool true)], args := [d1, d2, d3] }
  | _ => none }
def pathmodelExecutesAllRungsRow : OpenClaim := { program := "ytfghchpnolfllaa", sum := "cb5f1debf3fa0ee6f5c59a33db36faa2fcf88bf1cb1e030a7da2d9a0919715a1", func := "busbar/busbarlaw20.PathmodelExecutesAllRungs", spec := "pathmodelExecutesAllRungs", unfollowed := true, recurses := true, apart := false }
def PathmodelExecutesAllRungsSaid : Prop := pathmodelExecutesAllRungsRow.holds Try.pinned (OpenSpec.ofChange pathmodelExecutesAllRungsSpec)

/-- ITS FALSE NEIGHBOUR: 'it returns false'. Refute it at one input. -/
def pathmodelExecutesAllRungsWrong : ChangeSpec := { name := "pathmodelExecutesAllRungs", fn := fun _ => fun
  | [d1, d2, d3] => { results := [.lit (.bool false)], args := [d1, d2, d3] }
  | _ => none }
def PathmodelExecutesAllRungsWrongFalsely : Prop := pathmodelExecutesAllRungsRow.holds Try.pinned (OpenSpec.ofChange pathmodelExecutesAllRungsWrong)

/-- 'busbarlaw20.PathmodelSkipsToLabel': WHATEVER THE INPUT: true; the input reads as it did. -/
def pathmodelSkipsToLabelSpec : ChangeSpec := { name := "pathmodelSkipsToLabel", fn := fun _ => fun
  | [d1, d2, d3] => { results := [.lit (.bool true)], args := [d1, d2, d3] }
  | _ => none }
def pathmodelSkipsToLabelRow : OpenClaim := { program := "ytfghchpnolfllaa", sum := "cb5f1debf3fa0ee6f5c59a33db36faa2fcf88bf1cb1e030a7da2d9a0919715a1", func := "busbar/busbarlaw20.PathmodelSkipsToLabel", spec := "pathmodelSkipsToLabel", unfollowed := true, recurses := true, apart := false }
def PathmodelSkipsToLabelSaid : Prop := pathmodelSkipsToLabelRow.holds Try.pinned (OpenSpec.ofChange pathmodelSkipsToLabelSpec)

/-- ITS FALSE NEIGHBOUR: 'it returns false'. Refute it at one input. -/
def pathmodelSkipsToLabelWrong : ChangeSpec := { name := "pathmodelSkipsToLabel", fn := fun _ => fun
  | [d1, d2, d3] => { results := [.lit (.bool false)], args := [d1, d2, d3] }
  | _ => none }
def PathmodelSkipsToLabelWrongFalsely : Prop := pathmodelSkipsToLabelRow.holds Try.pinned (OpenSpec.ofChange pathmodelSkipsToLabelWrong)

/-- 'busbarlaw20.PathmodelRunMatchesReference': WHATEVER THE INPUT: true; the input reads as it did. -/
def pathmodelRunMatchesReferenceSpec : ChangeSpec := { name := "pathmodelRunMatchesReference", fn := fun _ => fun
  | [d1, d2, d3] => { results := [.lit (.bool true)], args := [d1, d2, d3] }
  | _ => none }
def pathmodelRunMatchesReferenceRow : OpenClaim := { program := "ytfghchpnolfllaa", sum := "cb5f1debf3fa0ee6f5c59a33db36faa2fcf88bf1cb1e030a7da2d9a0919715a1", func := "busbar/busbarlaw20.PathmodelRunMatchesReference", spec := "pathmodelRunMatchesReference", unfollowed := true, recurses := true, apart := false }
def PathmodelRunMatchesReferenceSaid : Prop := pathmodelRunMatchesReferenceRow.holds Try.pinned (OpenSpec.ofChange pathmodelRunMatchesReferenceSpec)

/-- ITS FALSE NEIGHBOUR: 'it returns false'. Refute it at one input. -/
def pathmodelRunMatchesReferenceWrong : ChangeSpec := { name := "pathmodelRunMatchesReference", fn := fun _ => fun
  | [d1, d2, d3] => { results := [.lit (.bool false)], args := [d1, d2, d3] }
  | _ => none }
def PathmodelRunMatchesReferenceWrongFalsely : Prop := pathmodelRunMatchesReferenceRow.holds Try.pinned (OpenSpec.ofChange pathmodelRunMatchesReferenceWrong)

/-- 'busbarlaw20.PathmodelComposition': WHATEVER THE INPUT: true; the input reads as it did. -/
def pathmodelCompositionSpec : ChangeSpec := { name := "pathmodelComposition", fn := fun _ => fun
  | [d1, d2, d3] => { results := [.lit (.bool true)], args := [d1, d2, d3] }
  | _ => none }
def pathmodelCompositionRow : OpenClaim := { program := "ytfghchpnolfllaa", sum := "cb5f1debf3fa0ee6f5c59a33db36faa2fcf88bf1cb1e030a7da2d9a0919715a1", func := "busbar/busbarlaw20.PathmodelComposition", spec := "pathmodelComposition", unfollowed := true, recurses := true, apart := false }
def PathmodelCompositionSaid : Prop := pathmodelCompositionRow.holds Try.pinned (OpenSpec.ofChange pathmodelCompositionSpec)

/-- ITS FALSE NEIGHBOUR: 'it returns false'. Refute it at one input. -/
def pathmodelCompositionWrong : ChangeSpec := { name := "pathmodelComposition", fn := fun _ => fun
  | [d1, d2, d3] => { results := [.lit (.bool false)], args := [d1, d2, d3] }
  | _ => none }
def PathmodelCompositionWrongFalsely : Prop := pathmodelCompositionRow.holds Try.pinned (OpenSpec.ofChange pathmodelCompositionWrong)

/-- 'busbarlaw16.RungevalAgreesWithTree': WHATEVER THE INPUT: true; the input reads as it did. -/
def rungevalAgreesWithTreeSpec : ChangeSpec := { name := "rungevalAgreesWithTree", fn := fun _ => fun
  | [d1, d2] => { results := [.lit (.bool true)], args := [d1, d2] }
  | _ => none }
def rungevalAgreesWithTreeRow : OpenClaim := { program := "ytfghchpnolfllaa", sum := "cb5f1debf3fa0ee6f5c59a33db36faa2fcf88bf1cb1e030a7da2d9a0919715a1", func := "busbar/busbarlaw16.RungevalAgreesWithTree", spec := "rungevalAgreesWithTree", unfollowed := true, recurses := true, apart := false }
def RungevalAgreesWithTreeSaid : Prop := rungevalAgreesWithTreeRow.holds Try.pinned (OpenSpec.ofChange rungevalAgreesWithTreeSpec)

/-- ITS FALSE NEIGHBOUR: 'it returns false'. Refute it at one input. -/
def rungevalAgreesWithTreeWrong : ChangeSpec := { name := "rungevalAgreesWithTree", fn := fun _ => fun
  | [d1, d2] => { results := [.lit (.bool false)], args := [d1, d2] }
  | _ => none }
def RungevalAgreesWithTreeWrongFalsely : Prop := rungevalAgreesWithTreeRow.holds Try.pinned (OpenSpec.ofChange rungevalAgreesWithTreeWrong)

/- THE SECOND FORM. 'bulk': how many values and letters a reading holds, each counted each time it is reached (what is shared counts as often as it is met; a slice's spare places count too). A statement '..UptoSaid' is the law's where the arguments, and the package variables that the reading takes, are together of bulk at most 1048576: NARROWER than '..Said'. Prove '..Said' where nothing that the law and all that it calls make is longer than what came in: it says more and counts as full. Else prove '..UptoSaid'. A law counts once. -/
mutual
def uptoBulk {H : Type} : DataW H → Nat
  | .lit (.string bytes) => bytes.length + 1
  | .lit _ => 1
  | .nil => 1
  | .ptr d => uptoBulk d + 1
  | .slice elems spare => uptoBulkAll elems + uptoBulkAll spare + 1
  | .agg parts => uptoBulkAll parts + 1
  | .iface _ d => uptoBulk d + 1
  | .map entries => uptoBulkEntries entries + 1
  | .held _ => 1
def uptoBulkAll {H : Type} : List (DataW H) → Nat
  | [] => 0
  | d :: r => uptoBulk d + uptoBulkAll r
def uptoBulkEntries {H : Type} : List (Lit × DataW H) → Nat
  | [] => 0
  | x :: r => uptoBulkEntry x + uptoBulkEntries r
def uptoBulkEntry {H : Type} : Lit × DataW H → Nat
  | (.string bytes, d) => bytes.length + uptoBulk d + 1
  | (_, d) => uptoBulk d + 1
 end
def uptoSmall : (H : Type) → List (DataW H) → Bool := fun _ ds => decide (uptoBulkAll ds ≤ 1048576)
def OpenSpec.upto (s : _root_.Go.ChangeSpec) : _root_.Go.OpenSpec := { _root_.Go.OpenSpec.ofChange s with cond := some uptoSmall }

/-- 'busbarlaw20.PathmodelScanMatchesReference', WHERE WHAT IT READS IS OF BULK AT MOST 1048576: true; the input reads as it did. -/
def pathmodelScanMatchesReferenceUptoRow : OpenClaim := { program := "ytfghchpnolfllaa", sum := "cb5f1debf3fa0ee6f5c59a33db36faa2fcf88bf1cb1e030a7da2d9a0919715a1", func := "busbar/busbarlaw20.PathmodelScanMatchesReference", spec := "pathmodelScanMatchesReference", unfollowed := true, recurses := true, apart := false, narrowed := true }
def PathmodelScanMatchesReferenceUptoSaid : Prop := pathmodelScanMatchesReferenceUptoRow.holds Try.pinned (OpenSpec.upto pathmodelScanMatchesReferenceSpec)

/-- 'busbarlaw20.PathmodelExecutesAllRungs', WHERE WHAT IT READS IS OF BULK AT MOST 1048576: true; the input reads as it did. -/
def pathmodelExecutesAllRungsUptoRow : OpenClaim := { program := "ytfghchpnolfllaa", sum := "cb5f1debf3fa0ee6f5c59a33db36faa2fcf88bf1cb1e030a7da2d9a0919715a1", func := "busbar/busbarlaw20.PathmodelExecutesAllRungs", spec := "pathmodelExecutesAllRungs", unfollowed := true, recurses := true, apart := false, narrowed := true }
def PathmodelExecutesAllRungsUptoSaid : Prop := pathmodelExecutesAllRungsUptoRow.holds Try.pinned (OpenSpec.upto pathmodelExecutesAllRungsSpec)

/-- 'busbarlaw20.PathmodelSkipsToLabel', WHERE WHAT IT READS IS OF BULK AT MOST 1048576: true; the input reads as it did. -/
def pathmodelSkipsToLabelUptoRow : OpenClaim := { program := "ytfghchpnolfllaa", sum := "cb5f1debf3fa0ee6f5c59a33db36faa2fcf88bf1cb1e030a7da2d9a0919715a1", func := "busbar/busbarlaw20.PathmodelSkipsToLabel", spec := "pathmodelSkipsToLabel", unfollowed := true, recurses := true, apart := false, narrowed := true }
def PathmodelSkipsToLabelUptoSaid : Prop := pathmodelSkipsToLabelUptoRow.holds Try.pinned (OpenSpec.upto pathmodelSkipsToLabelSpec)

/-- 'busbarlaw20.PathmodelRunMatchesReference', WHERE WHAT IT READS IS OF BULK AT MOST 1048576: true; the input reads as it did. -/
def pathmodelRunMatchesReferenceUptoRow : OpenClaim := { program := "ytfghchpnolfllaa", sum := "cb5f1debf3fa0ee6f5c59a33db36faa2fcf88bf1cb1e030a7da2d9a0919715a1", func := "busbar/busbarlaw20.PathmodelRunMatchesReference", spec := "pathmodelRunMatchesReference", unfollowed := true, recurses := true, apart := false, narrowed := true }
def PathmodelRunMatchesReferenceUptoSaid : Prop := pathmodelRunMatchesReferenceUptoRow.holds Try.pinned (OpenSpec.upto pathmodelRunMatchesReferenceSpec)

/-- 'busbarlaw20.PathmodelComposition', WHERE WHAT IT READS IS OF BULK AT MOST 1048576: true; the input reads as it did. -/
def pathmodelCompositionUptoRow : OpenClaim := { program := "ytfghchpnolfllaa", sum := "cb5f1debf3fa0ee6f5c59a33db36faa2fcf88bf1cb1e030a7da2d9a0919715a1", func := "busbar/busbarlaw20.PathmodelComposition", spec := "pathmodelComposition", unfollowed := true, recurses := true, apart := false, narrowed := true }
def PathmodelCompositionUptoSaid : Prop := pathmodelCompositionUptoRow.holds Try.pinned (OpenSpec.upto pathmodelCompositionSpec)

/-- 'busbarlaw16.RungevalAgreesWithTree', WHERE WHAT IT READS IS OF BULK AT MOST 1048576: true; the input reads as it did. -/
def rungevalAgreesWithTreeUptoRow : OpenClaim := { program := "ytfghchpnolfllaa", sum := "cb5f1debf3fa0ee6f5c59a33db36faa2fcf88bf1cb1e030a7da2d9a0919715a1", func := "busbar/busbarlaw16.RungevalAgreesWithTree", spec := "rungevalAgreesWithTree", unfollowed := true, recurses := true, apart := false, narrowed := true }
def RungevalAgreesWithTreeUptoSaid : Prop := rungevalAgreesWithTreeUptoRow.holds Try.pinned (OpenSpec.upto rungevalAgreesWithTreeSpec)

end Rows
end Go.Proofs.Ytfghchpnolfllaa
