/- For every rung, tree and slot, the compiler of a tree and of the coils returns the same results as the reference: the second form (what comes in is of bulk at most 1048576), a card: the listed variables are tied to the program. -/
import Derived.Test.YtaebdeidbibfkaaGreatDoorR0
import Derived.Test.YtaebdeidbibfkaaGreatDoorGC22
import Derived.Test.YtaebdeidbibfkaaGreatDoorLawM10
import Derived.Test.YtaebdeidbibfkaaGreatDoorTSz
import Derived.Test.YtaebdeidbibfkaaGreatDoorCards
import Derived.Test.YtaebdeidbibfkaaGreatDoorTie
set_option linter.unusedSimpArgs false
set_option linter.unusedVariables false
set_option linter.unusedSectionVars false
namespace Go.Proofs.YtaebdeidbibfkaaGreatDoor
open Go Go.Av Go.G Go.ChangeShapes

theorem laid_4 {W : World} (h : laidMetH Tryz.prog Rows.codegenTreeMatchesReferenceUptoRow.laid W) : Laid G0 (E0of W) W := fun g => by
  by_cases e0 : g = 0
  · subst e0
    rw [look_G0_0]
    exact .inr (laid_rep (t := ((Tryz.prog.globals[0]?).map (·.type)).getD 0) (k := .i64) (zs := [11, 12, 13, 14]) h (by kernel_rfl) (List.mem_of_getElem? (i := 3) rfl) (by kernel_rfl) (by kernel_rfl) (by kernel_rfl) rfl (by simp))
  by_cases e2 : g = 2
  · subst e2
    rw [look_G0_2]
    exact .inr (laid_rep (t := ((Tryz.prog.globals[2]?).map (·.type)).getD 0) (k := .i64) (zs := [0, 1, 6, 7]) h (by kernel_rfl) (List.mem_of_getElem? (i := 0) rfl) (by kernel_rfl) (by kernel_rfl) (by kernel_rfl) rfl (by simp))
  by_cases e3 : g = 3
  · subst e3
    rw [look_G0_3]
    exact .inr (laid_rep (t := ((Tryz.prog.globals[3]?).map (·.type)).getD 0) (k := .i64) (zs := [0, 0, 2, 3, 4, 5]) h (by kernel_rfl) (List.mem_of_getElem? (i := 1) rfl) (by kernel_rfl) (by kernel_rfl) (by kernel_rfl) rfl (by simp))
  by_cases e4 : g = 4
  · subst e4
    rw [look_G0_4]
    exact .inr (laid_rep (t := ((Tryz.prog.globals[4]?).map (·.type)).getD 0) (k := .i64) (zs := [0, 9, 10]) h (by kernel_rfl) (List.mem_of_getElem? (i := 2) rfl) (by kernel_rfl) (by kernel_rfl) (by kernel_rfl) rfl (by simp))
  refine .inl ?_
  unfold G0
  rw [show Go.Av.look ((0, _) :: _) g = _ from look_val _ _ _ _, if_neg (fun q => e0 q.symm)]
  rw [show Go.Av.look ((2, _) :: _) g = _ from look_val _ _ _ _, if_neg (fun q => e2 q.symm)]
  rw [show Go.Av.look ((3, _) :: _) g = _ from look_val _ _ _ _, if_neg (fun q => e3 q.symm)]
  rw [show Go.Av.look ((4, _) :: _) g = _ from look_val _ _ _ _, if_neg (fun q => e4 q.symm)]
  rfl

noncomputable def laidWorld_4 (os : Os) : World :=
  { World.holding Tryz.prog os ⟨#[], #[], []⟩ with heap := (((((World.holding Tryz.prog os ⟨#[], #[], []⟩).heap.modify 2 fun
      | .cells _ t fr => .cells #[.int .i64 0, .int .i64 1, .int .i64 6, .int .i64 7] t fr
      | o => o).modify 3 fun
      | .cells _ t fr => .cells #[.int .i64 0, .int .i64 0, .int .i64 2, .int .i64 3, .int .i64 4, .int .i64 5] t fr
      | o => o).modify 4 fun
      | .cells _ t fr => .cells #[.int .i64 0, .int .i64 9, .int .i64 10] t fr
      | o => o).modify 0 fun
      | .cells _ t fr => .cells #[.int .i64 11, .int .i64 12, .int .i64 13, .int .i64 14] t fr
      | o => o) }
theorem laid_met_4 (os : Os) : laidMetH Tryz.prog Rows.codegenTreeMatchesReferenceUptoRow.laid ((laidWorld_4 os).forCall (fun _ _ => 0) ⟨#[], #[.agg #[.string .empty, .slice none 0 0, .slice none 0 0, .string .empty], .agg #[.int .i64 0, .int .i64 0, .slice none 0 0], .int .i64 0], []⟩).memory := by
  rw [Go.MakeChecks.laidMetH_plain _ _ _ (by kernel_rfl)]
  exact laidMet_of_run' 8 (by kernel_rfl) (by kernel_rfl)
theorem reads_4 (os : Os) {H : Type} (enc : TypeId × Value → H) : ∃ places, DataW.whole enc Tryz.prog ((laidWorld_4 os).forCall (fun _ _ => 0) ⟨#[], #[.agg #[.string .empty, .slice none 0 0, .slice none 0 0, .string .empty], .agg #[.int .i64 0, .int .i64 0, .slice none 0 0], .int .i64 0], []⟩).memory Tryz.f4.params.toList Rows.codegenTreeMatchesReferenceSpec.vars false (#[.agg #[.string .empty, .slice none 0 0, .slice none 0 0, .string .empty], .agg #[.int .i64 0, .int .i64 0, .slice none 0 0], .int .i64 0] : Array Value).toList 8 = some ([.agg [.lit (.string []), .nil, .nil, .lit (.string [])], .agg [.lit (.int .i64 0), .lit (.int .i64 0), .nil], .lit (.int .i64 0)], [], places) :=
  ⟨[], by kernel_rfl⟩

set_option maxRecDepth 100000 in
theorem lifted_4 (os : Os) (started : os.Started) (H : Type) (enc : TypeId × Value → H) (F : Stop.Interp) :
    ReturnsInHanded {} Tryz.checked os 4 .any ((Rows.OpenSpec.upto Rows.codegenTreeMatchesReferenceSpec).preRow enc Tryz.prog Tryz.f4 Rows.codegenTreeMatchesReferenceUptoRow.domain false Rows.codegenTreeMatchesReferenceUptoRow.laid) (((Rows.OpenSpec.upto Rows.codegenTreeMatchesReferenceSpec).at F).post enc Tryz.prog Tryz.f4 false true false false) := by
  obtain ⟨places, hx⟩ := reads_4 os enc
  refine returnsInHanded_of_row (C := Tryz.checked) (s := Rows.OpenSpec.upto Rows.codegenTreeMatchesReferenceSpec) own started (by kernel_rfl) Tryz.func4
    (witness_row_at (enc := enc) (C := Tryz.checked) false (laidWorld_4 os) #[.agg #[.string .empty, .slice none 0 0, .slice none 0 0, .string .empty], .agg #[.int .i64 0, .int .i64 0, .slice none 0 0], .int .i64 0] rfl (by kernel_rfl) (by kernel_rfl) (by kernel_rfl)
      (OpenSpec.preRow_of_cond 8 hx (by kernel_rfl) (fun k hk => by cases hk; kernel_rfl) (by kernel_rfl) (laid_met_4 os))) ?_
  intro W base args ds gs before hval hW _ hcond _ hL _ _
  refine law_contract [25, 30, 3] (by rw [Tryz.params4]) (by kernel_rfl) Tryz.underlying4 laid_out ?_ rfl ?_ (opensL_cons oa_25 (opensL_cons oa_30 (opensL_cons oa_3 opensL_nil))) (N := 1048576) ?_ enc bulk_ok W (laid_4 hL) base args ds gs before hval hW (bulk_small (hcond _ rfl))
  · intro t ht
    simp only [List.mem_cons, List.not_mem_nil, or_false] at ht
    rcases ht with rfl | rfl | rfl <;> exact ⟨by kernel_rfl, by decide +kernel⟩
  · intro H ds h
    match ds, h with
    | [d0, d1, d2], _ => rfl
  · rintro ⟨a0, a1, a2, u⟩ hok hsz
    have h1 := kL_len (c := kApiContact) (fun a => by show 1 ≤ 1 + _; omega) a0.Contacts
    have h1b := kL_len (c := kApiCoil) (fun a => by show 1 ≤ 1 + _; omega) a0.Coils
    have h2 : (kL kApiContact).sz a0.Contacts ≤ 1048576 ∧ (kL kApiCoil).sz a0.Coils ≤ 1048576 ∧ sTreeTree a1 ≤ 1048576 := by simp only [codProd, kApiRung, kTreeTree] at hsz; omega
    rw [cTreeTree_eq]
    exact con_law17_CodegenTreeMatchesReference (treeMatches_law a0 a1 a2 (by omega) (by omega) (by rw [sz_eq]; exact h2.2.2))

theorem said_4 : Rows.CodegenTreeMatchesReferenceUptoSaid :=
  OpenClaim.holds_of_cond 4 Tryz.f4 rfl rfl rfl rfl rfl rfl rfl ⟨rfl, rfl, rfl, rfl, rfl⟩ rfl rfl rfl rfl rfl (by kernel_rfl) Tryz.func4 (by kernel_rfl)
    (of_decide_eq_true (by kernel_rfl)) (by unfold Func.isWrapper; first | (rw [if_pos (by decide +kernel)]; kernel_rfl) | (rw [if_neg (by decide +kernel)]; exact ⟨rfl, rfl⟩))
    (fun os started H enc _ F => by rw [OpenClaim.pre_eq_preRow]; exact lifted_4 os started H enc F)

/-- No parameter wants a stand-in; the program's own looks are off. -/
theorem plain_4 (f : FuncId) (fn : Func) (hf : Tryz.pinned.checked.prog.funcNamed Rows.codegenTreeMatchesReferenceUptoRow.func = some f) (hfn : Tryz.pinned.checked.prog.funcs[f]? = some fn) :
    false = Tryz.pinned.checked.prog.looks [] ∧ ∀ (j : Nat) t, fn.params[j]? = some t → Tryz.pinned.checked.prog.wantsStandIn t = false := by
  obtain rfl : f = 4 := Option.some.inj ((show Tryz.prog.funcNamed Rows.codegenTreeMatchesReferenceUptoRow.func = some 4 by kernel_rfl).symm.trans hf) |>.symm
  obtain rfl : fn = Tryz.f4 := (Option.some.inj (Tryz.func4.symm.trans hfn)).symm
  refine ⟨by kernel_rfl, fun j t ht => ?_⟩
  rw [Tryz.params4] at ht
  have hm : t ∈ [25, 30, 3] := by simpa using Array.mem_of_getElem? ht
  have hall : ([25, 30, 3].all fun u => !Tryz.prog.wantsStandIn u) = true := by kernel_rfl
  exact (show Tryz.prog.wantsStandIn t = false by simpa using List.all_eq_true.1 hall t hm)

theorem treeMatches_holds : Rows.CodegenTreeMatchesReferenceUptoCardSaid :=
  Claim7.holds_tied_plain_at .later [] _ _ _ _ said_4 (fun _ h => by cases h) (by kernel_rfl) (fun _ h => by cases h) codegenTreeMatchesReferenceUpto_row_tie rfl ⟨rfl, rfl⟩ (by kernel_rfl) rfl plain_4 (by kernel_rfl)
#print axioms treeMatches_holds
end Go.Proofs.YtaebdeidbibfkaaGreatDoor
