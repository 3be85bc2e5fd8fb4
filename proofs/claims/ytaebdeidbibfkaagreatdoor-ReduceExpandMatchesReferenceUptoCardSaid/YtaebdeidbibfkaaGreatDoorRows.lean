/-
  NARROWER THAN 'FOR EVERY INPUT', by the rows' own cells (each row's printed sentence says how): ReduceMatchesReference: laid · CodegenTreeMatchesReference: loops, laid · CodegenLadderMatchesReference: laid · ReduceExpandMatchesReference: loops, laid · ReduceInvertsExpand: loops, laid.
  DERIVED. THE GIVEN ROWS OF THIS SEAT. 5 by the template 'for every input the law returns true; each argument reads behind the call as it read before'; 0 by the template 'total and deterministic' (their statements: YtaebdeidbibfkaaGreatDoorTotals.lean).
  GIVEN WITH THE SEED: the statements are not yours to turn. If you find one false, say at which input.
  Laid BY PROGRAM, IN A SANDBOX (cutbox-rows.mjs): the forced cells as the released guide's own fill.sh prints them over the translation b9e12974e6037dd6… (all of the seat's roots in one cut). By AI agents, Wed Nov 11 2026. No macro, syntax, notation, axiom, sorry.
-/
import Derived.Test.YtaebdeidbibfkaaGreatDoorChecked
import GoSem.Claim
import GoSem.ClaimJoined
import GoSem.ClaimMapViews
import Derived.JoinedTies
import Derived.KernelRfl
namespace Go.Proofs.YtaebdeidbibfkaaGreatDoor
/- THE CELL 'sum', in the pinned program and in every row, IS THE sha256 OF THE DUMP (.gsa) THAT YtaebdeidbibfkaaGreatDoorProg.lean LOADS. Nothing in Lean hashes anything: it is a label: what it is worth is what the hold of that sum in a sandbox is worth. -/
noncomputable def Tryz.pinned : Pinned := { name := "ytaebdeidbibfkaagreatdoor", sum := "b9e12974e6037dd6095e81499d60c820c3bf36856e4bc8e32cfefc7ef10137f2", checked := Tryz.checked }
namespace Rows
def none {H : Type} : Left H := { results := [], args := [] }

/- WHAT THE LISTED PACKAGE-LEVEL VARIABLES READ AS WHEN THE CALL BEGINS. Each datum BY PROGRAM (the guide's laid-datum.mjs) off the statement by which the dump's own 'gosem.cut.vars' lays the variable. In a bare row this is a premise. The card (YtaebdeidbibfkaaGreatDoorCards.lean) ties it to the program's text. -/
def laid_math_bits_deBruijn32tab {H : Type} : DataW H := .agg [.lit (.int .u8 0), .lit (.int .u8 1), .lit (.int .u8 28), .lit (.int .u8 2), .lit (.int .u8 29), .lit (.int .u8 14), .lit (.int .u8 24), .lit (.int .u8 3), .lit (.int .u8 30), .lit (.int .u8 22), .lit (.int .u8 20), .lit (.int .u8 15), .lit (.int .u8 25), .lit (.int .u8 17), .lit (.int .u8 4), .lit (.int .u8 8), .lit (.int .u8 31), .lit (.int .u8 27), .lit (.int .u8 13), .lit (.int .u8 23), .lit (.int .u8 21), .lit (.int .u8 19), .lit (.int .u8 16), .lit (.int .u8 7), .lit (.int .u8 26), .lit (.int .u8 12), .lit (.int .u8 18), .lit (.int .u8 6), .lit (.int .u8 11), .lit (.int .u8 5), .lit (.int .u8 10), .lit (.int .u8 9)]
def laid_math_bits_deBruijn64tab {H : Type} : DataW H := .agg [.lit (.int .u8 0), .lit (.int .u8 1), .lit (.int .u8 56), .lit (.int .u8 2), .lit (.int .u8 57), .lit (.int .u8 49), .lit (.int .u8 28), .lit (.int .u8 3), .lit (.int .u8 61), .lit (.int .u8 58), .lit (.int .u8 42), .lit (.int .u8 50), .lit (.int .u8 38), .lit (.int .u8 29), .lit (.int .u8 17), .lit (.int .u8 4), .lit (.int .u8 62), .lit (.int .u8 47), .lit (.int .u8 59), .lit (.int .u8 36), .lit (.int .u8 45), .lit (.int .u8 43), .lit (.int .u8 51), .lit (.int .u8 22), .lit (.int .u8 53), .lit (.int .u8 39), .lit (.int .u8 33), .lit (.int .u8 30), .lit (.int .u8 24), .lit (.int .u8 18), .lit (.int .u8 12), .lit (.int .u8 5), .lit (.int .u8 63), .lit (.int .u8 55), .lit (.int .u8 48), .lit (.int .u8 27), .lit (.int .u8 60), .lit (.int .u8 41), .lit (.int .u8 37), .lit (.int .u8 16), .lit (.int .u8 46), .lit (.int .u8 35), .lit (.int .u8 44), .lit (.int .u8 21), .lit (.int .u8 52), .lit (.int .u8 32), .lit (.int .u8 23), .lit (.int .u8 11), .lit (.int .u8 54), .lit (.int .u8 26), .lit (.int .u8 40), .lit (.int .u8 15), .lit (.int .u8 34), .lit (.int .u8 20), .lit (.int .u8 31), .lit (.int .u8 10), .lit (.int .u8 25), .lit (.int .u8 14), .lit (.int .u8 19), .lit (.int .u8 9), .lit (.int .u8 13), .lit (.int .u8 8), .lit (.int .u8 7), .lit (.int .u8 6)]
def laid_internal_strconv_uint64pow10 {H : Type} : DataW H := .agg [.lit (.int .u64 1), .lit (.int .u64 10), .lit (.int .u64 100), .lit (.int .u64 1000), .lit (.int .u64 10000), .lit (.int .u64 100000), .lit (.int .u64 1000000), .lit (.int .u64 10000000), .lit (.int .u64 100000000), .lit (.int .u64 1000000000), .lit (.int .u64 10000000000), .lit (.int .u64 100000000000), .lit (.int .u64 1000000000000), .lit (.int .u64 10000000000000), .lit (.int .u64 100000000000000), .lit (.int .u64 1000000000000000), .lit (.int .u64 10000000000000000), .lit (.int .u64 100000000000000000), .lit (.int .u64 1000000000000000000), .lit (.int .u64 10000000000000000000)]
def laid_busbar_tree_signs {H : Type} : DataW H := .agg [.agg [.lit (.int .u8 0), .lit (.int .u8 0)], .agg [.lit (.int .u8 91), .lit (.int .u8 93)], .agg [.lit (.int .u8 123), .lit (.int .u8 125)]]
def laid_busbar_codegen_loads {H : Type} : DataW H := .agg [.lit (.int .i64 0), .lit (.int .i64 1), .lit (.int .i64 6), .lit (.int .i64 7)]
def laid_busbar_codegen_joins {H : Type} : DataW H := .agg [.agg [.lit (.int .i64 0), .lit (.int .i64 0)], .agg [.lit (.int .i64 2), .lit (.int .i64 3)], .agg [.lit (.int .i64 4), .lit (.int .i64 5)]]
def laid_busbar_codegen_pops {H : Type} : DataW H := .agg [.lit (.int .i64 0), .lit (.int .i64 9), .lit (.int .i64 10)]
def laid_busbar_codegen_writes {H : Type} : DataW H := .agg [.lit (.int .i64 11), .lit (.int .i64 12), .lit (.int .i64 13), .lit (.int .i64 14)]

/-- 'busbarlaw15.ReduceMatchesReference': WHATEVER THE INPUT: true; the input reads as it did. -/
def reduceMatchesReferenceSpec : ChangeSpec := { name := "reduceMatchesReference", fn := fun _ => fun
  | [d] => { results := [.lit (.bool true)], args := [d] }
  | _ => none }
def reduceMatchesReferenceRow : OpenClaim := { program := "ytaebdeidbibfkaagreatdoor", sum := "b9e12974e6037dd6095e81499d60c820c3bf36856e4bc8e32cfefc7ef10137f2", func := "busbar/busbarlaw15.ReduceMatchesReference", spec := "reduceMatchesReference", inPlace := ["internal/abi.NoEscape", "internal/bytealg.MakeNoZero"], unfollowed := true, recurses := true, named := ["busbar/tree.signs", "internal/strconv.uint64pow10", "math/bits.deBruijn32tab", "math/bits.deBruijn64tab"], apart := false, laid := [("math/bits.deBruijn32tab", laid_math_bits_deBruijn32tab), ("math/bits.deBruijn64tab", laid_math_bits_deBruijn64tab), ("internal/strconv.uint64pow10", laid_internal_strconv_uint64pow10), ("busbar/tree.signs", laid_busbar_tree_signs)] }
def ReduceMatchesReferenceSaid : Prop := reduceMatchesReferenceRow.holds Tryz.pinned (OpenSpec.ofChange reduceMatchesReferenceSpec)

/-- ITS FALSE NEIGHBOUR: 'it returns false'. Refute it at one input. -/
def reduceMatchesReferenceWrong : ChangeSpec := { name := "reduceMatchesReference", fn := fun _ => fun
  | [d] => { results := [.lit (.bool false)], args := [d] }
  | _ => none }
def ReduceMatchesReferenceWrongFalsely : Prop := reduceMatchesReferenceRow.holds Tryz.pinned (OpenSpec.ofChange reduceMatchesReferenceWrong)

/-- 'busbarlaw17.CodegenTreeMatchesReference': WHATEVER THE INPUT: true; the input reads as it did. -/
def codegenTreeMatchesReferenceSpec : ChangeSpec := { name := "codegenTreeMatchesReference", fn := fun _ => fun
  | [d1, d2, d3] => { results := [.lit (.bool true)], args := [d1, d2, d3] }
  | _ => none }
def codegenTreeMatchesReferenceRow : OpenClaim := { program := "ytaebdeidbibfkaagreatdoor", sum := "b9e12974e6037dd6095e81499d60c820c3bf36856e4bc8e32cfefc7ef10137f2", func := "busbar/busbarlaw17.CodegenTreeMatchesReference", spec := "codegenTreeMatchesReference", unfollowed := true, recurses := true, named := ["busbar/codegen.loads", "busbar/codegen.joins", "busbar/codegen.pops", "busbar/codegen.writes"], loops := true, apart := false, laid := [("busbar/codegen.loads", laid_busbar_codegen_loads), ("busbar/codegen.joins", laid_busbar_codegen_joins), ("busbar/codegen.pops", laid_busbar_codegen_pops), ("busbar/codegen.writes", laid_busbar_codegen_writes)] }
def CodegenTreeMatchesReferenceSaid : Prop := codegenTreeMatchesReferenceRow.holds Tryz.pinned (OpenSpec.ofChange codegenTreeMatchesReferenceSpec)

/-- ITS FALSE NEIGHBOUR: 'it returns false'. Refute it at one input. -/
def codegenTreeMatchesReferenceWrong : ChangeSpec := { name := "codegenTreeMatchesReference", fn := fun _ => fun
  | [d1, d2, d3] => { results := [.lit (.bool false)], args := [d1, d2, d3] }
  | _ => none }
def CodegenTreeMatchesReferenceWrongFalsely : Prop := codegenTreeMatchesReferenceRow.holds Tryz.pinned (OpenSpec.ofChange codegenTreeMatchesReferenceWrong)

/-- 'busbarlaw17.CodegenLadderMatchesReference': WHATEVER THE INPUT: true; the input reads as it did. -/
def codegenLadderMatchesReferenceSpec : ChangeSpec := { name := "codegenLadderMatchesReference", fn := fun _ => fun
  | [d] => { results := [.lit (.bool true)], args := [d] }
  | _ => none }
def codegenLadderMatchesReferenceRow : OpenClaim := { program := "ytaebdeidbibfkaagreatdoor", sum := "b9e12974e6037dd6095e81499d60c820c3bf36856e4bc8e32cfefc7ef10137f2", func := "busbar/busbarlaw17.CodegenLadderMatchesReference", spec := "codegenLadderMatchesReference", unfollowed := true, recurses := true, named := ["busbar/codegen.loads", "busbar/codegen.joins", "busbar/codegen.pops", "busbar/codegen.writes"], apart := false, laid := [("busbar/codegen.loads", laid_busbar_codegen_loads), ("busbar/codegen.joins", laid_busbar_codegen_joins), ("busbar/codegen.pops", laid_busbar_codegen_pops), ("busbar/codegen.writes", laid_busbar_codegen_writes)] }
def CodegenLadderMatchesReferenceSaid : Prop := codegenLadderMatchesReferenceRow.holds Tryz.pinned (OpenSpec.ofChange codegenLadderMatchesReferenceSpec)

/-- ITS FALSE NEIGHBOUR: 'it returns false'. Refute it at one input. -/
def codegenLadderMatchesReferenceWrong : ChangeSpec := { name := "codegenLadderMatchesReference", fn := fun _ => fun
  | [d] => { results := [.lit (.bool false)], args := [d] }
  | _ => none }
def CodegenLadderMatchesReferenceWrongFalsely : Prop := codegenLadderMatchesReferenceRow.holds Tryz.pinned (OpenSpec.ofChange codegenLadderMatchesReferenceWrong)

/-- 'busbarlaw15.ReduceExpandMatchesReference': WHATEVER THE INPUT: true; the input reads as it did. -/
def reduceExpandMatchesReferenceSpec : ChangeSpec := { name := "reduceExpandMatchesReference", fn := fun _ => fun
  | [d1, d2] => { results := [.lit (.bool true)], args := [d1, d2] }
  | _ => none }
def reduceExpandMatchesReferenceRow : OpenClaim := { program := "ytaebdeidbibfkaagreatdoor", sum := "b9e12974e6037dd6095e81499d60c820c3bf36856e4bc8e32cfefc7ef10137f2", func := "busbar/busbarlaw15.ReduceExpandMatchesReference", spec := "reduceExpandMatchesReference", inPlace := ["internal/abi.NoEscape", "internal/bytealg.MakeNoZero"], unfollowed := true, recurses := true, named := ["busbar/tree.signs", "internal/strconv.uint64pow10", "math/bits.deBruijn32tab", "math/bits.deBruijn64tab"], loops := true, apart := false, laid := [("math/bits.deBruijn32tab", laid_math_bits_deBruijn32tab), ("math/bits.deBruijn64tab", laid_math_bits_deBruijn64tab), ("internal/strconv.uint64pow10", laid_internal_strconv_uint64pow10), ("busbar/tree.signs", laid_busbar_tree_signs)] }
def ReduceExpandMatchesReferenceSaid : Prop := reduceExpandMatchesReferenceRow.holds Tryz.pinned (OpenSpec.ofChange reduceExpandMatchesReferenceSpec)

/-- ITS FALSE NEIGHBOUR: 'it returns false'. Refute it at one input. -/
def reduceExpandMatchesReferenceWrong : ChangeSpec := { name := "reduceExpandMatchesReference", fn := fun _ => fun
  | [d1, d2] => { results := [.lit (.bool false)], args := [d1, d2] }
  | _ => none }
def ReduceExpandMatchesReferenceWrongFalsely : Prop := reduceExpandMatchesReferenceRow.holds Tryz.pinned (OpenSpec.ofChange reduceExpandMatchesReferenceWrong)

/-- 'busbarlaw15.ReduceInvertsExpand': WHATEVER THE INPUT: true; the input reads as it did. -/
def reduceInvertsExpandSpec : ChangeSpec := { name := "reduceInvertsExpand", fn := fun _ => fun
  | [d1, d2] => { results := [.lit (.bool true)], args := [d1, d2] }
  | _ => none }
def reduceInvertsExpandRow : OpenClaim := { program := "ytaebdeidbibfkaagreatdoor", sum := "b9e12974e6037dd6095e81499d60c820c3bf36856e4bc8e32cfefc7ef10137f2", func := "busbar/busbarlaw15.ReduceInvertsExpand", spec := "reduceInvertsExpand", inPlace := ["internal/abi.NoEscape", "internal/bytealg.MakeNoZero"], unfollowed := true, recurses := true, named := ["busbar/tree.signs", "internal/strconv.uint64pow10", "math/bits.deBruijn32tab", "math/bits.deBruijn64tab"], loops := true, apart := false, laid := [("math/bits.deBruijn32tab", laid_math_bits_deBruijn32tab), ("math/bits.deBruijn64tab", laid_math_bits_deBruijn64tab), ("internal/strconv.uint64pow10", laid_internal_strconv_uint64pow10), ("busbar/tree.signs", laid_busbar_tree_signs)] }
def ReduceInvertsExpandSaid : Prop := reduceInvertsExpandRow.holds Tryz.pinned (OpenSpec.ofChange reduceInvertsExpandSpec)

/-- ITS FALSE NEIGHBOUR: 'it returns false'. Refute it at one input. -/
def reduceInvertsExpandWrong : ChangeSpec := { name := "reduceInvertsExpand", fn := fun _ => fun
  | [d1, d2] => { results := [.lit (.bool false)], args := [d1, d2] }
  | _ => none }
def ReduceInvertsExpandWrongFalsely : Prop := reduceInvertsExpandRow.holds Tryz.pinned (OpenSpec.ofChange reduceInvertsExpandWrong)

/- THE SECOND FORM. 'bulk': how many values and letters a reading holds, each counted each time it is reached (what is shared counts as often as it is met; a slice's spare places count too). A statement '..UptoSaid' is the law's where the arguments, and the package variables that the reading takes, are together of bulk at most 1048576: NARROWER than '..Said'. Prove '..Said' where nothing that the law and all that it calls make is longer than what came in: it says more and counts as full. Else prove '..UptoSaid'. A law counts once. -/
mutual
def uptoBulk {H : Type} : DataW H → Nat
  | .lit (.string bytes) => bytes.length + 1
  | .lit _ => 1
  | .nil => 1
  | .ptr d => uptoBulk d + 1
  | .slice elems spare => uptoBulkAll elems + uptoBulkAll spare + 1
  | .agg parts => uptoBulkAll parts + 1
  | .iface _ d => uptoBulk d + 1
  | .map entries => uptoBulkEntries entries + 1
  | .held _ => 1
def uptoBulkAll {H : Type} : List (DataW H) → Nat
  | [] => 0
  | d :: r => uptoBulk d + uptoBulkAll r
def uptoBulkEntries {H : Type} : List (Lit × DataW H) → Nat
  | [] => 0
  | x :: r => uptoBulkEntry x + uptoBulkEntries r
def uptoBulkEntry {H : Type} : Lit × DataW H → Nat
  | (.string bytes, d) => bytes.length + uptoBulk d + 1
  | (_, d) => uptoBulk d + 1
 end
def uptoSmall : (H : Type) → List (DataW H) → Bool := fun _ ds => decide (uptoBulkAll ds ≤ 1048576)
def OpenSpec.upto (s : _root_.Go.ChangeSpec) : _root_.Go.OpenSpec := { _root_.Go.OpenSpec.ofChange s with cond := some uptoSmall }

/-- 'busbarlaw15.ReduceMatchesReference', WHERE WHAT IT READS IS OF BULK AT MOST 1048576: true; the input reads as it did. -/
def reduceMatchesReferenceUptoRow : OpenClaim := { program := "ytaebdeidbibfkaagreatdoor", sum := "b9e12974e6037dd6095e81499d60c820c3bf36856e4bc8e32cfefc7ef10137f2", func := "busbar/busbarlaw15.ReduceMatchesReference", spec := "reduceMatchesReference", inPlace := ["internal/abi.NoEscape", "internal/bytealg.MakeNoZero"], unfollowed := true, recurses := true, named := ["busbar/tree.signs", "internal/strconv.uint64pow10", "math/bits.deBruijn32tab", "math/bits.deBruijn64tab"], apart := false, laid := [("math/bits.deBruijn32tab", laid_math_bits_deBruijn32tab), ("math/bits.deBruijn64tab", laid_math_bits_deBruijn64tab), ("internal/strconv.uint64pow10", laid_internal_strconv_uint64pow10), ("busbar/tree.signs", laid_busbar_tree_signs)], narrowed := true }
def ReduceMatchesReferenceUptoSaid : Prop := reduceMatchesReferenceUptoRow.holds Tryz.pinned (OpenSpec.upto reduceMatchesReferenceSpec)

/-- 'busbarlaw17.CodegenTreeMatchesReference', WHERE WHAT IT READS IS OF BULK AT MOST 1048576: true; the input reads as it did. -/
def codegenTreeMatchesReferenceUptoRow : OpenClaim := { program := "ytaebdeidbibfkaagreatdoor", sum := "b9e12974e6037dd6095e81499d60c820c3bf36856e4bc8e32cfefc7ef10137f2", func := "busbar/busbarlaw17.CodegenTreeMatchesReference", spec := "codegenTreeMatchesReference", unfollowed := true, recurses := true, named := ["busbar/codegen.loads", "busbar/codegen.joins", "busbar/codegen.pops", "busbar/codegen.writes"], loops := true, apart := false, laid := [("busbar/codegen.loads", laid_busbar_codegen_loads), ("busbar/codegen.joins", laid_busbar_codegen_joins), ("busbar/codegen.pops", laid_busbar_codegen_pops), ("busbar/codegen.writes", laid_busbar_codegen_writes)], narrowed := true }
def CodegenTreeMatchesReferenceUptoSaid : Prop := codegenTreeMatchesReferenceUptoRow.holds Tryz.pinned (OpenSpec.upto codegenTreeMatchesReferenceSpec)

/-- 'busbarlaw17.CodegenLadderMatchesReference', WHERE WHAT IT READS IS OF BULK AT MOST 1048576: true; the input reads as it did. -/
def codegenLadderMatchesReferenceUptoRow : OpenClaim := { program := "ytaebdeidbibfkaagreatdoor", sum := "b9e12974e6037dd6095e81499d60c820c3bf36856e4bc8e32cfefc7ef10137f2", func := "busbar/busbarlaw17.CodegenLadderMatchesReference", spec := "codegenLadderMatchesReference", unfollowed := true, recurses := true, named := ["busbar/codegen.loads", "busbar/codegen.joins", "busbar/codegen.pops", "busbar/codegen.writes"], apart := false, laid := [("busbar/codegen.loads", laid_busbar_codegen_loads), ("busbar/codegen.joins", laid_busbar_codegen_joins), ("busbar/codegen.pops", laid_busbar_codegen_pops), ("busbar/codegen.writes", laid_busbar_codegen_writes)], narrowed := true }
def CodegenLadderMatchesReferenceUptoSaid : Prop := codegenLadderMatchesReferenceUptoRow.holds Tryz.pinned (OpenSpec.upto codegenLadderMatchesReferenceSpec)

/-- 'busbarlaw15.ReduceExpandMatchesReference', WHERE WHAT IT READS IS OF BULK AT MOST 1048576: true; the input reads as it did. -/
def reduceExpandMatchesReferenceUptoRow : OpenClaim := { program := "ytaebdeidbibfkaagreatdoor", sum := "b9e12974e6037dd6095e81499d60c820c3bf36856e4bc8e32cfefc7ef10137f2", func := "busbar/busbarlaw15.ReduceExpandMatchesReference", spec := "reduceExpandMatchesReference", inPlace := ["internal/abi.NoEscape", "internal/bytealg.MakeNoZero"], unfollowed := true, recurses := true, named := ["busbar/tree.signs", "internal/strconv.uint64pow10", "math/bits.deBruijn32tab", "math/bits.deBruijn64tab"], loops := true, apart := false, laid := [("math/bits.deBruijn32tab", laid_math_bits_deBruijn32tab), ("math/bits.deBruijn64tab", laid_math_bits_deBruijn64tab), ("internal/strconv.uint64pow10", laid_internal_strconv_uint64pow10), ("busbar/tree.signs", laid_busbar_tree_signs)], narrowed := true }
def ReduceExpandMatchesReferenceUptoSaid : Prop := reduceExpandMatchesReferenceUptoRow.holds Tryz.pinned (OpenSpec.upto reduceExpandMatchesReferenceSpec)

/-- 'busbarlaw15.ReduceInvertsExpand', WHERE WHAT IT READS IS OF BULK AT MOST 1048576: true; the input reads as it did. -/
def reduceInvertsExpandUptoRow : OpenClaim := { program := "ytaebdeidbibfkaagreatdoor", sum := "b9e12974e6037dd6095e81499d60c820c3bf36856e4bc8e32cfefc7ef10137f2", func := "busbar/busbarlaw15.ReduceInvertsExpand", spec := "reduceInvertsExpand", inPlace := ["internal/abi.NoEscape", "internal/bytealg.MakeNoZero"], unfollowed := true, recurses := true, named := ["busbar/tree.signs", "internal/strconv.uint64pow10", "math/bits.deBruijn32tab", "math/bits.deBruijn64tab"], loops := true, apart := false, laid := [("math/bits.deBruijn32tab", laid_math_bits_deBruijn32tab), ("math/bits.deBruijn64tab", laid_math_bits_deBruijn64tab), ("internal/strconv.uint64pow10", laid_internal_strconv_uint64pow10), ("busbar/tree.signs", laid_busbar_tree_signs)], narrowed := true }
def ReduceInvertsExpandUptoSaid : Prop := reduceInvertsExpandUptoRow.holds Tryz.pinned (OpenSpec.upto reduceInvertsExpandSpec)

end Rows
end Go.Proofs.YtaebdeidbibfkaaGreatDoor
