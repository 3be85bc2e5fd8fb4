/- For every rung, Reduce and IsSeriesParallel return the same results as the reference: the second form (what comes in is of bulk at most 1048576), a card: the listed variables are tied to the program. -/
import Derived.Test.YtaebdeidbibfkaaGreatDoorUR0
import Derived.Test.YtaebdeidbibfkaaGreatDoorUGC20
import Derived.Test.YtaebdeidbibfkaaGreatDoorULawM13
import Derived.Test.YtaebdeidbibfkaaGreatDoorCards
import Derived.Test.YtaebdeidbibfkaaGreatDoorTie
set_option linter.unusedSimpArgs false
set_option linter.unusedVariables false
set_option linter.unusedSectionVars false
namespace Go.Proofs.YtaebdeidbibfkaaGreatDoor
open Go Go.Av Go.G Go.ChangeShapes

theorem laid_3 {W : World} (h : laidMetH Tryz.prog Rows.reduceMatchesReferenceUptoRow.laid W) : Laid G0 (E0of W) W := fun g => by
  by_cases e1 : g = 1
  · subst e1
    rw [look_G0_1]
    exact .inr (laid_rep (t := ((Tryz.prog.globals[1]?).map (·.type)).getD 0) (k := .u8) (zs := [0, 0, 91, 93, 123, 125]) h (by kernel_rfl) (List.mem_of_getElem? (i := 3) rfl) (by kernel_rfl) (by kernel_rfl) (by kernel_rfl) rfl (by simp))
  refine .inl ?_
  unfold G0
  rw [show Go.Av.look ((1, _) :: _) g = _ from look_val _ _ _ _, if_neg (fun q => e1 q.symm)]
  rfl

noncomputable def laidWorld_3 (os : Os) : World :=
  { World.holding Tryz.prog os ⟨#[], #[], []⟩ with heap := (((((World.holding Tryz.prog os ⟨#[], #[], []⟩).heap.modify 7 fun
      | .cells _ t fr => .cells #[.int .u8 0, .int .u8 1, .int .u8 28, .int .u8 2, .int .u8 29, .int .u8 14, .int .u8 24, .int .u8 3, .int .u8 30, .int .u8 22, .int .u8 20, .int .u8 15, .int .u8 25, .int .u8 17, .int .u8 4, .int .u8 8, .int .u8 31, .int .u8 27, .int .u8 13, .int .u8 23, .int .u8 21, .int .u8 19, .int .u8 16, .int .u8 7, .int .u8 26, .int .u8 12, .int .u8 18, .int .u8 6, .int .u8 11, .int .u8 5, .int .u8 10, .int .u8 9] t fr
      | o => o).modify 8 fun
      | .cells _ t fr => .cells #[.int .u8 0, .int .u8 1, .int .u8 56, .int .u8 2, .int .u8 57, .int .u8 49, .int .u8 28, .int .u8 3, .int .u8 61, .int .u8 58, .int .u8 42, .int .u8 50, .int .u8 38, .int .u8 29, .int .u8 17, .int .u8 4, .int .u8 62, .int .u8 47, .int .u8 59, .int .u8 36, .int .u8 45, .int .u8 43, .int .u8 51, .int .u8 22, .int .u8 53, .int .u8 39, .int .u8 33, .int .u8 30, .int .u8 24, .int .u8 18, .int .u8 12, .int .u8 5, .int .u8 63, .int .u8 55, .int .u8 48, .int .u8 27, .int .u8 60, .int .u8 41, .int .u8 37, .int .u8 16, .int .u8 46, .int .u8 35, .int .u8 44, .int .u8 21, .int .u8 52, .int .u8 32, .int .u8 23, .int .u8 11, .int .u8 54, .int .u8 26, .int .u8 40, .int .u8 15, .int .u8 34, .int .u8 20, .int .u8 31, .int .u8 10, .int .u8 25, .int .u8 14, .int .u8 19, .int .u8 9, .int .u8 13, .int .u8 8, .int .u8 7, .int .u8 6] t fr
      | o => o).modify 5 fun
      | .cells _ t fr => .cells #[.int .u64 1, .int .u64 10, .int .u64 100, .int .u64 1000, .int .u64 10000, .int .u64 100000, .int .u64 1000000, .int .u64 10000000, .int .u64 100000000, .int .u64 1000000000, .int .u64 10000000000, .int .u64 100000000000, .int .u64 1000000000000, .int .u64 10000000000000, .int .u64 100000000000000, .int .u64 1000000000000000, .int .u64 10000000000000000, .int .u64 100000000000000000, .int .u64 1000000000000000000, .int .u64 10000000000000000000] t fr
      | o => o).modify 1 fun
      | .cells _ t fr => .cells #[.int .u8 0, .int .u8 0, .int .u8 91, .int .u8 93, .int .u8 123, .int .u8 125] t fr
      | o => o) }
theorem laid_met_3 (os : Os) : laidMetH Tryz.prog Rows.reduceMatchesReferenceUptoRow.laid ((laidWorld_3 os).forCall (fun _ _ => 0) ⟨#[], #[.agg #[.string .empty, .slice none 0 0, .slice none 0 0, .string .empty]], []⟩).memory := by
  rw [Go.MakeChecks.laidMetH_plain _ _ _ (by kernel_rfl)]
  exact laidMet_of_run' 8 (by kernel_rfl) (by kernel_rfl)
theorem reads_3 (os : Os) {H : Type} (enc : TypeId × Value → H) : ∃ places, DataW.whole enc Tryz.prog ((laidWorld_3 os).forCall (fun _ _ => 0) ⟨#[], #[.agg #[.string .empty, .slice none 0 0, .slice none 0 0, .string .empty]], []⟩).memory Tryz.f3.params.toList Rows.reduceMatchesReferenceSpec.vars false (#[.agg #[.string .empty, .slice none 0 0, .slice none 0 0, .string .empty]] : Array Value).toList 8 = some ([.agg [.lit (.string []), .nil, .nil, .lit (.string [])]], [], places) :=
  ⟨[], by kernel_rfl⟩

set_option maxRecDepth 100000 in
theorem lifted_3 (os : Os) (started : os.Started) (H : Type) (enc : TypeId × Value → H) (F : Stop.Interp) :
    ReturnsInHanded {} Tryz.checked os 3 .any ((Rows.OpenSpec.upto Rows.reduceMatchesReferenceSpec).preRow enc Tryz.prog Tryz.f3 Rows.reduceMatchesReferenceUptoRow.domain false Rows.reduceMatchesReferenceUptoRow.laid) (((Rows.OpenSpec.upto Rows.reduceMatchesReferenceSpec).at F).post enc Tryz.prog Tryz.f3 false true false false) := by
  obtain ⟨places, hx⟩ := reads_3 os enc
  refine returnsInHanded_of_row (C := Tryz.checked) (s := Rows.OpenSpec.upto Rows.reduceMatchesReferenceSpec) own started (by kernel_rfl) Tryz.func3
    (witness_row_at (enc := enc) (C := Tryz.checked) false (laidWorld_3 os) #[.agg #[.string .empty, .slice none 0 0, .slice none 0 0, .string .empty]] rfl (by kernel_rfl) (by kernel_rfl) (by kernel_rfl)
      (OpenSpec.preRow_of_cond 8 hx (by kernel_rfl) (fun k hk => by cases hk; kernel_rfl) (by kernel_rfl) (laid_met_3 os))) ?_
  intro W base args ds gs before hval hW _ hcond _ hL _ _
  refine law_contract [25] (by rw [Tryz.params3]) (by kernel_rfl) Tryz.underlying4 laid_out ?_ rfl ?_ (opensL_cons oa_25 opensL_nil) (N := 1048576) ?_ enc bulk_ok W (laid_3 hL) base args ds gs before hval hW (bulk_small (hcond _ rfl))
  · intro t ht
    simp only [List.mem_cons, List.not_mem_nil, or_false] at ht
    rcases ht with rfl <;> exact ⟨by kernel_rfl, by decide +kernel⟩
  · intro H ds h
    match ds, h with
    | [d0], _ => rfl
  · rintro ⟨a0, u⟩ hok hsz
    have h1 := kL_len (c := kApiContact) (fun a => by show 1 ≤ 1 + _; omega) a0.Contacts
    have h2 : (kL kApiContact).sz a0.Contacts ≤ 1048576 := by simp only [codProd, kApiRung] at hsz; omega
    exact con_law15_ReduceMatchesReference (matches_law a0 (by omega))

theorem said_3 : Rows.ReduceMatchesReferenceUptoSaid :=
  OpenClaim.holds_of_cond 3 Tryz.f3 rfl rfl rfl rfl rfl rfl rfl ⟨rfl, rfl, rfl, rfl, rfl⟩ rfl rfl rfl rfl rfl (by kernel_rfl) Tryz.func3 (by kernel_rfl)
    (of_decide_eq_true (by kernel_rfl)) (by unfold Func.isWrapper; first | (rw [if_pos (by decide +kernel)]; kernel_rfl) | (rw [if_neg (by decide +kernel)]; exact ⟨rfl, rfl⟩))
    (fun os started H enc _ F => by rw [OpenClaim.pre_eq_preRow]; exact lifted_3 os started H enc F)

/-- No parameter wants a stand-in; the program's own looks are off. -/
theorem plain_3 (f : FuncId) (fn : Func) (hf : Tryz.pinned.checked.prog.funcNamed Rows.reduceMatchesReferenceUptoRow.func = some f) (hfn : Tryz.pinned.checked.prog.funcs[f]? = some fn) :
    false = Tryz.pinned.checked.prog.looks [] ∧ ∀ (j : Nat) t, fn.params[j]? = some t → Tryz.pinned.checked.prog.wantsStandIn t = false := by
  obtain rfl : f = 3 := Option.some.inj ((show Tryz.prog.funcNamed Rows.reduceMatchesReferenceUptoRow.func = some 3 by kernel_rfl).symm.trans hf) |>.symm
  obtain rfl : fn = Tryz.f3 := (Option.some.inj (Tryz.func3.symm.trans hfn)).symm
  refine ⟨by kernel_rfl, fun j t ht => ?_⟩
  rw [Tryz.params3] at ht
  have hm : t ∈ [25] := by simpa using Array.mem_of_getElem? ht
  have hall : ([25].all fun u => !Tryz.prog.wantsStandIn u) = true := by kernel_rfl
  exact (show Tryz.prog.wantsStandIn t = false by simpa using List.all_eq_true.1 hall t hm)

theorem matches_holds : Rows.ReduceMatchesReferenceUptoCardSaid :=
  Claim7.holds_tied_plain_at .later [] _ _ _ _ said_3 (fun _ h => by cases h) (by kernel_rfl) (fun _ h => by cases h) reduceMatchesReferenceUpto_row_tie rfl ⟨rfl, rfl⟩ (by kernel_rfl) rfl plain_3 (by kernel_rfl)
#print axioms matches_holds
end Go.Proofs.YtaebdeidbibfkaaGreatDoor
