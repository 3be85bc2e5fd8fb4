/-
  NARROWER THAN 'FOR EVERY INPUT', by the rows' own cells (each row's printed sentence says how): ReduceOrderIndependent: laid · ReduceChains: laid · CodegenWithoutPush: laid · CodegenSlotOffset: laid · CodegenJumpTargets: laid · ReduceIsStable: laid.
  DERIVED. THE GIVEN ROWS OF THIS SEAT. 6 by the template 'for every input the law returns true; each argument reads behind the call as it read before'; 0 by the template 'total and deterministic' (their statements: YtaebdeidbibfkaaDoorTotals.lean).
  GIVEN WITH THE SEED: the statements are not yours to turn. If you find one false, say at which input.
  Laid BY PROGRAM, IN A SANDBOX (cutbox-rows.mjs): the forced cells as the released guide's own fill.sh prints them over the translation 9309569710c1168f… (all of the seat's roots in one cut). By AI agents, Wed Nov 11 2026. No macro, syntax, notation, axiom, sorry.
-/
import Derived.Test.YtaebdeidbibfkaaDoorChecked
import GoSem.Claim
import GoSem.ClaimJoined
import GoSem.ClaimMapViews
import Derived.JoinedTies
import Derived.KernelRfl
namespace Go.Proofs.YtaebdeidbibfkaaDoor
/- THE CELL 'sum', in the pinned program and in every row, IS THE sha256 OF THE DUMP (.gsa) THAT YtaebdeidbibfkaaDoorProg.lean LOADS. Nothing in Lean hashes anything: it is a label: what it is worth is what the hold of that sum in a sandbox is worth. -/
noncomputable def Tryd.pinned : Pinned := { name := "ytaebdeidbibfkaadoor", sum := "9309569710c1168f29c23c9d4d86055c3d9aa058490eea1eb56273445f82c56d", checked := Tryd.checked }
namespace Rows
def none {H : Type} : Left H := { results := [], args := [] }

/- WHAT THE LISTED PACKAGE-LEVEL VARIABLES READ AS WHEN THE CALL BEGINS. Each datum BY PROGRAM (the guide's laid-datum.mjs) off the statement by which the dump's own 'gosem.cut.vars' lays the variable. In a bare row this is a premise. The card (YtaebdeidbibfkaaDoorCards.lean) ties it to the program's text. -/
def laid_math_bits_deBruijn32tab {H : Type} : DataW H := .agg [.lit (.int .u8 0), .lit (.int .u8 1), .lit (.int .u8 28), .lit (.int .u8 2), .lit (.int .u8 29), .lit (.int .u8 14), .lit (.int .u8 24), .lit (.int .u8 3), .lit (.int .u8 30), .lit (.int .u8 22), .lit (.int .u8 20), .lit (.int .u8 15), .lit (.int .u8 25), .lit (.int .u8 17), .lit (.int .u8 4), .lit (.int .u8 8), .lit (.int .u8 31), .lit (.int .u8 27), .lit (.int .u8 13), .lit (.int .u8 23), .lit (.int .u8 21), .lit (.int .u8 19), .lit (.int .u8 16), .lit (.int .u8 7), .lit (.int .u8 26), .lit (.int .u8 12), .lit (.int .u8 18), .lit (.int .u8 6), .lit (.int .u8 11), .lit (.int .u8 5), .lit (.int .u8 10), .lit (.int .u8 9)]
def laid_math_bits_deBruijn64tab {H : Type} : DataW H := .agg [.lit (.int .u8 0), .lit (.int .u8 1), .lit (.int .u8 56), .lit (.int .u8 2), .lit (.int .u8 57), .lit (.int .u8 49), .lit (.int .u8 28), .lit (.int .u8 3), .lit (.int .u8 61), .lit (.int .u8 58), .lit (.int .u8 42), .lit (.int .u8 50), .lit (.int .u8 38), .lit (.int .u8 29), .lit (.int .u8 17), .lit (.int .u8 4), .lit (.int .u8 62), .lit (.int .u8 47), .lit (.int .u8 59), .lit (.int .u8 36), .lit (.int .u8 45), .lit (.int .u8 43), .lit (.int .u8 51), .lit (.int .u8 22), .lit (.int .u8 53), .lit (.int .u8 39), .lit (.int .u8 33), .lit (.int .u8 30), .lit (.int .u8 24), .lit (.int .u8 18), .lit (.int .u8 12), .lit (.int .u8 5), .lit (.int .u8 63), .lit (.int .u8 55), .lit (.int .u8 48), .lit (.int .u8 27), .lit (.int .u8 60), .lit (.int .u8 41), .lit (.int .u8 37), .lit (.int .u8 16), .lit (.int .u8 46), .lit (.int .u8 35), .lit (.int .u8 44), .lit (.int .u8 21), .lit (.int .u8 52), .lit (.int .u8 32), .lit (.int .u8 23), .lit (.int .u8 11), .lit (.int .u8 54), .lit (.int .u8 26), .lit (.int .u8 40), .lit (.int .u8 15), .lit (.int .u8 34), .lit (.int .u8 20), .lit (.int .u8 31), .lit (.int .u8 10), .lit (.int .u8 25), .lit (.int .u8 14), .lit (.int .u8 19), .lit (.int .u8 9), .lit (.int .u8 13), .lit (.int .u8 8), .lit (.int .u8 7), .lit (.int .u8 6)]
def laid_internal_strconv_uint64pow10 {H : Type} : DataW H := .agg [.lit (.int .u64 1), .lit (.int .u64 10), .lit (.int .u64 100), .lit (.int .u64 1000), .lit (.int .u64 10000), .lit (.int .u64 100000), .lit (.int .u64 1000000), .lit (.int .u64 10000000), .lit (.int .u64 100000000), .lit (.int .u64 1000000000), .lit (.int .u64 10000000000), .lit (.int .u64 100000000000), .lit (.int .u64 1000000000000), .lit (.int .u64 10000000000000), .lit (.int .u64 100000000000000), .lit (.int .u64 1000000000000000), .lit (.int .u64 10000000000000000), .lit (.int .u64 100000000000000000), .lit (.int .u64 1000000000000000000), .lit (.int .u64 10000000000000000000)]
def laid_busbar_tree_signs {H : Type} : DataW H := .agg [.agg [.lit (.int .u8 0), .lit (.int .u8 0)], .agg [.lit (.int .u8 91), .lit (.int .u8 93)], .agg [.lit (.int .u8 123), .lit (.int .u8 125)]]
def laid_busbar_codegen_loads {H : Type} : DataW H := .agg [.lit (.int .i64 0), .lit (.int .i64 1), .lit (.int .i64 6), .lit (.int .i64 7)]
def laid_busbar_codegen_joins {H : Type} : DataW H := .agg [.agg [.lit (.int .i64 0), .lit (.int .i64 0)], .agg [.lit (.int .i64 2), .lit (.int .i64 3)], .agg [.lit (.int .i64 4), .lit (.int .i64 5)]]
def laid_busbar_codegen_pops {H : Type} : DataW H := .agg [.lit (.int .i64 0), .lit (.int .i64 9), .lit (.int .i64 10)]
def laid_busbar_codegen_writes {H : Type} : DataW H := .agg [.lit (.int .i64 11), .lit (.int .i64 12), .lit (.int .i64 13), .lit (.int .i64 14)]

/-- 'busbarlaw15.ReduceOrderIndependent': WHATEVER THE INPUT: true; the input reads as it did. -/
def reduceOrderIndependentSpec : ChangeSpec := { name := "reduceOrderIndependent", fn := fun _ => fun
  | [d1, d2] => { results := [.lit (.bool true)], args := [d1, d2] }
  | _ => none }
def reduceOrderIndependentRow : OpenClaim := { program := "ytaebdeidbibfkaadoor", sum := "9309569710c1168f29c23c9d4d86055c3d9aa058490eea1eb56273445f82c56d", func := "busbar/busbarlaw15.ReduceOrderIndependent", spec := "reduceOrderIndependent", inPlace := ["internal/abi.NoEscape", "internal/bytealg.MakeNoZero"], unfollowed := true, recurses := true, named := ["busbar/tree.signs", "internal/strconv.uint64pow10", "math/bits.deBruijn32tab", "math/bits.deBruijn64tab"], apart := false, laid := [("math/bits.deBruijn32tab", laid_math_bits_deBruijn32tab), ("math/bits.deBruijn64tab", laid_math_bits_deBruijn64tab), ("internal/strconv.uint64pow10", laid_internal_strconv_uint64pow10), ("busbar/tree.signs", laid_busbar_tree_signs)] }
def ReduceOrderIndependentSaid : Prop := reduceOrderIndependentRow.holds Tryd.pinned (OpenSpec.ofChange reduceOrderIndependentSpec)

/-- ITS FALSE NEIGHBOUR: 'it returns false'. Refute it at one input. -/
def reduceOrderIndependentWrong : ChangeSpec := { name := "reduceOrderIndependent", fn := fun _ => fun
  | [d1, d2] => { results := [.lit (.bool false)], args := [d1, d2] }
  | _ => none }
def ReduceOrderIndependentWrongFalsely : Prop := reduceOrderIndependentRow.holds Tryd.pinned (OpenSpec.ofChange reduceOrderIndependentWrong)

/-- 'busbarlaw15.ReduceChains': WHATEVER THE INPUT: true; the input reads as it did. -/
def reduceChainsSpec : ChangeSpec := { name := "reduceChains", fn := fun _ => fun
  | [d1, d2] => { results := [.lit (.bool true)], args := [d1, d2] }
  | _ => none }
def reduceChainsRow : OpenClaim := { program := "ytaebdeidbibfkaadoor", sum := "9309569710c1168f29c23c9d4d86055c3d9aa058490eea1eb56273445f82c56d", func := "busbar/busbarlaw15.ReduceChains", spec := "reduceChains", inPlace := ["internal/abi.NoEscape", "internal/bytealg.MakeNoZero"], unfollowed := true, recurses := true, named := ["busbar/tree.signs", "internal/strconv.uint64pow10", "math/bits.deBruijn32tab", "math/bits.deBruijn64tab"], apart := false, laid := [("math/bits.deBruijn32tab", laid_math_bits_deBruijn32tab), ("math/bits.deBruijn64tab", laid_math_bits_deBruijn64tab), ("internal/strconv.uint64pow10", laid_internal_strconv_uint64pow10), ("busbar/tree.signs", laid_busbar_tree_signs)] }
def ReduceChainsSaid : Prop := reduceChainsRow.holds Tryd.pinned (OpenSpec.ofChange reduceChainsSpec)

/-- ITS FALSE NEIGHBOUR: 'it returns false'. Refute it at one input. -/
def reduceChainsWrong : ChangeSpec := { name := "reduceChains", fn := fun _ => fun
  | [d1, d2] => { results := [.lit (.bool false)], args := [d1, d2] }
  | _ => none }
def ReduceChainsWrongFalsely : Prop := reduceChainsRow.holds Tryd.pinned (OpenSpec.ofChange reduceChainsWrong)

/-- 'busbarlaw17.CodegenWithoutPush': WHATEVER THE INPUT: true; the input reads as it did. -/
def codegenWithoutPushSpec : ChangeSpec := { name := "codegenWithoutPush", fn := fun _ => fun
  | [d1, d2] => { results := [.lit (.bool true)], args := [d1, d2] }
  | _ => none }
def codegenWithoutPushRow : OpenClaim := { program := "ytaebdeidbibfkaadoor", sum := "9309569710c1168f29c23c9d4d86055c3d9aa058490eea1eb56273445f82c56d", func := "busbar/busbarlaw17.CodegenWithoutPush", spec := "codegenWithoutPush", unfollowed := true, recurses := true, named := ["busbar/codegen.loads", "busbar/codegen.joins", "busbar/codegen.pops", "busbar/codegen.writes"], apart := false, laid := [("busbar/codegen.loads", laid_busbar_codegen_loads), ("busbar/codegen.joins", laid_busbar_codegen_joins), ("busbar/codegen.pops", laid_busbar_codegen_pops), ("busbar/codegen.writes", laid_busbar_codegen_writes)] }
def CodegenWithoutPushSaid : Prop := codegenWithoutPushRow.holds Tryd.pinned (OpenSpec.ofChange codegenWithoutPushSpec)

/-- ITS FALSE NEIGHBOUR: 'it returns false'. Refute it at one input. -/
def codegenWithoutPushWrong : ChangeSpec := { name := "codegenWithoutPush", fn := fun _ => fun
  | [d1, d2] => { results := [.lit (.bool false)], args := [d1, d2] }
  | _ => none }
def CodegenWithoutPushWrongFalsely : Prop := codegenWithoutPushRow.holds Tryd.pinned (OpenSpec.ofChange codegenWithoutPushWrong)

/-- 'busbarlaw17.CodegenSlotOffset': WHATEVER THE INPUT: true; the input reads as it did. -/
def codegenSlotOffsetSpec : ChangeSpec := { name := "codegenSlotOffset", fn := fun _ => fun
  | [d1, d2, d3] => { results := [.lit (.bool true)], args := [d1, d2, d3] }
  | _ => none }
def codegenSlotOffsetRow : OpenClaim := { program := "ytaebdeidbibfkaadoor", sum := "9309569710c1168f29c23c9d4d86055c3d9aa058490eea1eb56273445f82c56d", func := "busbar/busbarlaw17.CodegenSlotOffset", spec := "codegenSlotOffset", unfollowed := true, recurses := true, named := ["busbar/codegen.loads", "busbar/codegen.joins", "busbar/codegen.pops", "busbar/codegen.writes"], apart := false, laid := [("busbar/codegen.loads", laid_busbar_codegen_loads), ("busbar/codegen.joins", laid_busbar_codegen_joins), ("busbar/codegen.pops", laid_busbar_codegen_pops), ("busbar/codegen.writes", laid_busbar_codegen_writes)] }
def CodegenSlotOffsetSaid : Prop := codegenSlotOffsetRow.holds Tryd.pinned (OpenSpec.ofChange codegenSlotOffsetSpec)

/-- ITS FALSE NEIGHBOUR: 'it returns false'. Refute it at one input. -/
def codegenSlotOffsetWrong : ChangeSpec := { name := "codegenSlotOffset", fn := fun _ => fun
  | [d1, d2, d3] => { results := [.lit (.bool false)], args := [d1, d2, d3] }
  | _ => none }
def CodegenSlotOffsetWrongFalsely : Prop := codegenSlotOffsetRow.holds Tryd.pinned (OpenSpec.ofChange codegenSlotOffsetWrong)

/-- 'busbarlaw17.CodegenJumpTargets': WHATEVER THE INPUT: true; the input reads as it did. -/
def codegenJumpTargetsSpec : ChangeSpec := { name := "codegenJumpTargets", fn := fun _ => fun
  | [d] => { results := [.lit (.bool true)], args := [d] }
  | _ => none }
def codegenJumpTargetsRow : OpenClaim := { program := "ytaebdeidbibfkaadoor", sum := "9309569710c1168f29c23c9d4d86055c3d9aa058490eea1eb56273445f82c56d", func := "busbar/busbarlaw17.CodegenJumpTargets", spec := "codegenJumpTargets", unfollowed := true, recurses := true, named := ["busbar/codegen.loads", "busbar/codegen.joins", "busbar/codegen.pops", "busbar/codegen.writes"], apart := false, laid := [("busbar/codegen.loads", laid_busbar_codegen_loads), ("busbar/codegen.joins", laid_busbar_codegen_joins), ("busbar/codegen.pops", laid_busbar_codegen_pops), ("busbar/codegen.writes", laid_busbar_codegen_writes)] }
def CodegenJumpTargetsSaid : Prop := codegenJumpTargetsRow.holds Tryd.pinned (OpenSpec.ofChange codegenJumpTargetsSpec)

/-- ITS FALSE NEIGHBOUR: 'it returns false'. Refute it at one input. -/
def codegenJumpTargetsWrong : ChangeSpec := { name := "codegenJumpTargets", fn := fun _ => fun
  | [d] => { results := [.lit (.bool false)], args := [d] }
  | _ => none }
def CodegenJumpTargetsWrongFalsely : Prop := codegenJumpTargetsRow.holds Tryd.pinned (OpenSpec.ofChange codegenJumpTargetsWrong)

/-- 'busbarlaw15.ReduceIsStable': WHATEVER THE INPUT: true; the input reads as it did. -/
def reduceIsStableSpec : ChangeSpec := { name := "reduceIsStable", fn := fun _ => fun
  | [d] => { results := [.lit (.bool true)], args := [d] }
  | _ => none }
def reduceIsStableRow : OpenClaim := { program := "ytaebdeidbibfkaadoor", sum := "9309569710c1168f29c23c9d4d86055c3d9aa058490eea1eb56273445f82c56d", func := "busbar/busbarlaw15.ReduceIsStable", spec := "reduceIsStable", inPlace := ["internal/abi.NoEscape", "internal/bytealg.MakeNoZero"], unfollowed := true, recurses := true, named := ["busbar/tree.signs", "internal/strconv.uint64pow10", "math/bits.deBruijn32tab", "math/bits.deBruijn64tab"], apart := false, laid := [("math/bits.deBruijn32tab", laid_math_bits_deBruijn32tab), ("math/bits.deBruijn64tab", laid_math_bits_deBruijn64tab), ("internal/strconv.uint64pow10", laid_internal_strconv_uint64pow10), ("busbar/tree.signs", laid_busbar_tree_signs)] }
def ReduceIsStableSaid : Prop := reduceIsStableRow.holds Tryd.pinned (OpenSpec.ofChange reduceIsStableSpec)

/-- ITS FALSE NEIGHBOUR: 'it returns false'. Refute it at one input. -/
def reduceIsStableWrong : ChangeSpec := { name := "reduceIsStable", fn := fun _ => fun
  | [d] => { results := [.lit (.bool false)], args := [d] }
  | _ => none }
def ReduceIsStableWrongFalsely : Prop := reduceIsStableRow.holds Tryd.pinned (OpenSpec.ofChange reduceIsStableWrong)

/- THE SECOND FORM. 'bulk': how many values and letters a reading holds, each counted each time it is reached (what is shared counts as often as it is met; a slice's spare places count too). A statement '..UptoSaid' is the law's where the arguments, and the package variables that the reading takes, are together of bulk at most 1048576: NARROWER than '..Said'. Prove '..Said' where nothing that the law and all that it calls make is longer than what came in: it says more and counts as full. Else prove '..UptoSaid'. A law counts once. -/
mutual
def uptoBulk {H : Type} : DataW H → Nat
  | .lit (.string bytes) => bytes.length + 1
  | .lit _ => 1
  | .nil => 1
  | .ptr d => uptoBulk d + 1
  | .slice elems spare => uptoBulkAll elems + uptoBulkAll spare + 1
  | .agg parts => uptoBulkAll parts + 1
  | .iface _ d => uptoBulk d + 1
  | .map entries => uptoBulkEntries entries + 1
  | .held _ => 1
def uptoBulkAll {H : Type} : List (DataW H) → Nat
  | [] => 0
  | d :: r => uptoBulk d + uptoBulkAll r
def uptoBulkEntries {H : Type} : List (Lit × DataW H) → Nat
  | [] => 0
  | x :: r => uptoBulkEntry x + uptoBulkEntries r
def uptoBulkEntry {H : Type} : Lit × DataW H → Nat
  | (.string bytes, d) => bytes.length + uptoBulk d + 1
  | (_, d) => uptoBulk d + 1
 end
def uptoSmall : (H : Type) → List (DataW H) → Bool := fun _ ds => decide (uptoBulkAll ds ≤ 1048576)
def OpenSpec.upto (s : _root_.Go.ChangeSpec) : _root_.Go.OpenSpec := { _root_.Go.OpenSpec.ofChange s with cond := some uptoSmall }

/-- 'busbarlaw15.ReduceOrderIndependent', WHERE WHAT IT READS IS OF BULK AT MOST 1048576: true; the input reads as it did. -/
def reduceOrderIndependentUptoRow : OpenClaim := { program := "ytaebdeidbibfkaadoor", sum := "9309569710c1168f29c23c9d4d86055c3d9aa058490eea1eb56273445f82c56d", func := "busbar/busbarlaw15.ReduceOrderIndependent", spec := "reduceOrderIndependent", inPlace := ["internal/abi.NoEscape", "internal/bytealg.MakeNoZero"], unfollowed := true, recurses := true, named := ["busbar/tree.signs", "internal/strconv.uint64pow10", "math/bits.deBruijn32tab", "math/bits.deBruijn64tab"], apart := false, laid := [("math/bits.deBruijn32tab", laid_math_bits_deBruijn32tab), ("math/bits.deBruijn64tab", laid_math_bits_deBruijn64tab), ("internal/strconv.uint64pow10", laid_internal_strconv_uint64pow10), ("busbar/tree.signs", laid_busbar_tree_signs)], narrowed := true }
def ReduceOrderIndependentUptoSaid : Prop := reduceOrderIndependentUptoRow.holds Tryd.pinned (OpenSpec.upto reduceOrderIndependentSpec)

/-- 'busbarlaw15.ReduceChains', WHERE WHAT IT READS IS OF BULK AT MOST 1048576: true; the input reads as it did. -/
def reduceChainsUptoRow : OpenClaim := { program := "ytaebdeidbibfkaadoor", sum := "9309569710c1168f29c23c9d4d86055c3d9aa058490eea1eb56273445f82c56d", func := "busbar/busbarlaw15.ReduceChains", spec := "reduceChains", inPlace := ["internal/abi.NoEscape", "internal/bytealg.MakeNoZero"], unfollowed := true, recurses := true, named := ["busbar/tree.signs", "internal/strconv.uint64pow10", "math/bits.deBruijn32tab", "math/bits.deBruijn64tab"], apart := false, laid := [("math/bits.deBruijn32tab", laid_math_bits_deBruijn32tab), ("math/bits.deBruijn64tab", laid_math_bits_deBruijn64tab), ("internal/strconv.uint64pow10", laid_internal_strconv_uint64pow10), ("busbar/tree.signs", laid_busbar_tree_signs)], narrowed := true }
def ReduceChainsUptoSaid : Prop := reduceChainsUptoRow.holds Tryd.pinned (OpenSpec.upto reduceChainsSpec)

/-- 'busbarlaw17.CodegenWithoutPush', WHERE WHAT IT READS IS OF BULK AT MOST 1048576: true; the input reads as it did. -/
def codegenWithoutPushUptoRow : OpenClaim := { program := "ytaebdeidbibfkaadoor", sum := "9309569710c1168f29c23c9d4d86055c3d9aa058490eea1eb56273445f82c56d", func := "busbar/busbarlaw17.CodegenWithoutPush", spec := "codegenWithoutPush", unfollowed := true, recurses := true, named := ["busbar/codegen.loads", "busbar/codegen.joins", "busbar/codegen.pops", "busbar/codegen.writes"], apart := false, laid := [("busbar/codegen.loads", laid_busbar_codegen_loads), ("busbar/codegen.joins", laid_busbar_codegen_joins), ("busbar/codegen.pops", laid_busbar_codegen_pops), ("busbar/codegen.writes", laid_busbar_codegen_writes)], narrowed := true }
def CodegenWithoutPushUptoSaid : Prop := codegenWithoutPushUptoRow.holds Tryd.pinned (OpenSpec.upto codegenWithoutPushSpec)

/-- 'busbarlaw17.CodegenSlotOffset', WHERE WHAT IT READS IS OF BULK AT MOST 1048576: true; the input reads as it did. -/
def codegenSlotOffsetUptoRow : OpenClaim := { program := "ytaebdeidbibfkaadoor", sum := "9309569710c1168f29c23c9d4d86055c3d9aa058490eea1eb56273445f82c56d", func := "busbar/busbarlaw17.CodegenSlotOffset", spec := "codegenSlotOffset", unfollowed := true, recurses := true, named := ["busbar/codegen.loads", "busbar/codegen.joins", "busbar/codegen.pops", "busbar/codegen.writes"], apart := false, laid := [("busbar/codegen.loads", laid_busbar_codegen_loads), ("busbar/codegen.joins", laid_busbar_codegen_joins), ("busbar/codegen.pops", laid_busbar_codegen_pops), ("busbar/codegen.writes", laid_busbar_codegen_writes)], narrowed := true }
def CodegenSlotOffsetUptoSaid : Prop := codegenSlotOffsetUptoRow.holds Tryd.pinned (OpenSpec.upto codegenSlotOffsetSpec)

/-- 'busbarlaw17.CodegenJumpTargets', WHERE WHAT IT READS IS OF BULK AT MOST 1048576: true; the input reads as it did. -/
def codegenJumpTargetsUptoRow : OpenClaim := { program := "ytaebdeidbibfkaadoor", sum := "9309569710c1168f29c23c9d4d86055c3d9aa058490eea1eb56273445f82c56d", func := "busbar/busbarlaw17.CodegenJumpTargets", spec := "codegenJumpTargets", unfollowed := true, recurses := true, named := ["busbar/codegen.loads", "busbar/codegen.joins", "busbar/codegen.pops", "busbar/codegen.writes"], apart := false, laid := [("busbar/codegen.loads", laid_busbar_codegen_loads), ("busbar/codegen.joins", laid_busbar_codegen_joins), ("busbar/codegen.pops", laid_busbar_codegen_pops), ("busbar/codegen.writes", laid_busbar_codegen_writes)], narrowed := true }
def CodegenJumpTargetsUptoSaid : Prop := codegenJumpTargetsUptoRow.holds Tryd.pinned (OpenSpec.upto codegenJumpTargetsSpec)

/-- 'busbarlaw15.ReduceIsStable', WHERE WHAT IT READS IS OF BULK AT MOST 1048576: true; the input reads as it did. -/
def reduceIsStableUptoRow : OpenClaim := { program := "ytaebdeidbibfkaadoor", sum := "9309569710c1168f29c23c9d4d86055c3d9aa058490eea1eb56273445f82c56d", func := "busbar/busbarlaw15.ReduceIsStable", spec := "reduceIsStable", inPlace := ["internal/abi.NoEscape", "internal/bytealg.MakeNoZero"], unfollowed := true, recurses := true, named := ["busbar/tree.signs", "internal/strconv.uint64pow10", "math/bits.deBruijn32tab", "math/bits.deBruijn64tab"], apart := false, laid := [("math/bits.deBruijn32tab", laid_math_bits_deBruijn32tab), ("math/bits.deBruijn64tab", laid_math_bits_deBruijn64tab), ("internal/strconv.uint64pow10", laid_internal_strconv_uint64pow10), ("busbar/tree.signs", laid_busbar_tree_signs)], narrowed := true }
def ReduceIsStableUptoSaid : Prop := reduceIsStableUptoRow.holds Tryd.pinned (OpenSpec.upto reduceIsStableSpec)

end Rows
end Go.Proofs.YtaebdeidbibfkaaDoor
