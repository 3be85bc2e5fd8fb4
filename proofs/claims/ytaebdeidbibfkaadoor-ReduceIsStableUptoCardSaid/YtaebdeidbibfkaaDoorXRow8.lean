/- Expanding the tree of a rung and reducing it again yields the same tree: the second form (what comes in is of bulk at most 1048576), a card: the listed variables are tied to the program. -/
import Derived.Test.YtaebdeidbibfkaaDoorXR0
import Derived.Test.YtaebdeidbibfkaaDoorXGC18
import Derived.Test.YtaebdeidbibfkaaDoorXLawM14
import Derived.Test.YtaebdeidbibfkaaDoorCards
import Derived.Test.YtaebdeidbibfkaaDoorTie
set_option linter.unusedSimpArgs false
set_option linter.unusedVariables false
set_option linter.unusedSectionVars false
namespace Go.Proofs.YtaebdeidbibfkaaDoor
open Go Go.Av Go.G Go.ChangeShapes

theorem laid_8 {W : World} (h : laidMetH Tryd.prog Rows.reduceIsStableUptoRow.laid W) : Laid G0 (E0of W) W := fun g => by
  by_cases e0 : g = 0
  · subst e0
    rw [look_G0_0]
    exact .inr (laid_rep (t := ((Tryd.prog.globals[0]?).map (·.type)).getD 0) (k := .u8) (zs := [0, 0, 91, 93, 123, 125]) h (by kernel_rfl) (List.mem_of_getElem? (i := 3) rfl) (by kernel_rfl) (by kernel_rfl) (by kernel_rfl) rfl (by simp))
  refine .inl ?_
  unfold G0
  rw [show Go.Av.look ((0, _) :: _) g = _ from look_val _ _ _ _, if_neg (fun q => e0 q.symm)]
  rfl

noncomputable def laidWorld_8 (os : Os) : World :=
  { World.holding Tryd.prog os ⟨#[], #[], []⟩ with heap := (((((World.holding Tryd.prog os ⟨#[], #[], []⟩).heap.modify 7 fun
      | .cells _ t fr => .cells #[.int .u8 0, .int .u8 1, .int .u8 28, .int .u8 2, .int .u8 29, .int .u8 14, .int .u8 24, .int .u8 3, .int .u8 30, .int .u8 22, .int .u8 20, .int .u8 15, .int .u8 25, .int .u8 17, .int .u8 4, .int .u8 8, .int .u8 31, .int .u8 27, .int .u8 13, .int .u8 23, .int .u8 21, .int .u8 19, .int .u8 16, .int .u8 7, .int .u8 26, .int .u8 12, .int .u8 18, .int .u8 6, .int .u8 11, .int .u8 5, .int .u8 10, .int .u8 9] t fr
      | o => o).modify 8 fun
      | .cells _ t fr => .cells #[.int .u8 0, .int .u8 1, .int .u8 56, .int .u8 2, .int .u8 57, .int .u8 49, .int .u8 28, .int .u8 3, .int .u8 61, .int .u8 58, .int .u8 42, .int .u8 50, .int .u8 38, .int .u8 29, .int .u8 17, .int .u8 4, .int .u8 62, .int .u8 47, .int .u8 59, .int .u8 36, .int .u8 45, .int .u8 43, .int .u8 51, .int .u8 22, .int .u8 53, .int .u8 39, .int .u8 33, .int .u8 30, .int .u8 24, .int .u8 18, .int .u8 12, .int .u8 5, .int .u8 63, .int .u8 55, .int .u8 48, .int .u8 27, .int .u8 60, .int .u8 41, .int .u8 37, .int .u8 16, .int .u8 46, .int .u8 35, .int .u8 44, .int .u8 21, .int .u8 52, .int .u8 32, .int .u8 23, .int .u8 11, .int .u8 54, .int .u8 26, .int .u8 40, .int .u8 15, .int .u8 34, .int .u8 20, .int .u8 31, .int .u8 10, .int .u8 25, .int .u8 14, .int .u8 19, .int .u8 9, .int .u8 13, .int .u8 8, .int .u8 7, .int .u8 6] t fr
      | o => o).modify 5 fun
      | .cells _ t fr => .cells #[.int .u64 1, .int .u64 10, .int .u64 100, .int .u64 1000, .int .u64 10000, .int .u64 100000, .int .u64 1000000, .int .u64 10000000, .int .u64 100000000, .int .u64 1000000000, .int .u64 10000000000, .int .u64 100000000000, .int .u64 1000000000000, .int .u64 10000000000000, .int .u64 100000000000000, .int .u64 1000000000000000, .int .u64 10000000000000000, .int .u64 100000000000000000, .int .u64 1000000000000000000, .int .u64 10000000000000000000] t fr
      | o => o).modify 0 fun
      | .cells _ t fr => .cells #[.int .u8 0, .int .u8 0, .int .u8 91, .int .u8 93, .int .u8 123, .int .u8 125] t fr
      | o => o) }
theorem laid_met_8 (os : Os) : laidMetH Tryd.prog Rows.reduceIsStableUptoRow.laid ((laidWorld_8 os).forCall (fun _ _ => 0) ⟨#[], #[.agg #[.string .empty, .slice none 0 0, .slice none 0 0, .string .empty]], []⟩).memory := by
  rw [Go.MakeChecks.laidMetH_plain _ _ _ (by kernel_rfl)]
  exact laidMet_of_run' 8 (by kernel_rfl) (by kernel_rfl)
theorem reads_8 (os : Os) {H : Type} (enc : TypeId × Value → H) : ∃ places, DataW.whole enc Tryd.prog ((laidWorld_8 os).forCall (fun _ _ => 0) ⟨#[], #[.agg #[.string .empty, .slice none 0 0, .slice none 0 0, .string .empty]], []⟩).memory Tryd.f8.params.toList Rows.reduceIsStableSpec.vars false (#[.agg #[.string .empty, .slice none 0 0, .slice none 0 0, .string .empty]] : Array Value).toList 8 = some ([.agg [.lit (.string []), .nil, .nil, .lit (.string [])]], [], places) :=
  ⟨[], by kernel_rfl⟩

set_option maxRecDepth 100000 in
theorem lifted_8 (os : Os) (started : os.Started) (H : Type) (enc : TypeId × Value → H) (F : Stop.Interp) :
    ReturnsInHanded {} Tryd.checked os 8 .any ((Rows.OpenSpec.upto Rows.reduceIsStableSpec).preRow enc Tryd.prog Tryd.f8 Rows.reduceIsStableUptoRow.domain false Rows.reduceIsStableUptoRow.laid) (((Rows.OpenSpec.upto Rows.reduceIsStableSpec).at F).post enc Tryd.prog Tryd.f8 false true false false) := by
  obtain ⟨places, hx⟩ := reads_8 os enc
  refine returnsInHanded_of_row (C := Tryd.checked) (s := Rows.OpenSpec.upto Rows.reduceIsStableSpec) own started (by kernel_rfl) Tryd.func8
    (witness_row_at (enc := enc) (C := Tryd.checked) false (laidWorld_8 os) #[.agg #[.string .empty, .slice none 0 0, .slice none 0 0, .string .empty]] rfl (by kernel_rfl) (by kernel_rfl) (by kernel_rfl)
      (OpenSpec.preRow_of_cond 8 hx (by kernel_rfl) (fun k hk => by cases hk; kernel_rfl) (by kernel_rfl) (laid_met_8 os))) ?_
  intro W base args ds gs before hval hW _ hcond _ hL _ _
  refine law_contract [25] (by rw [Tryd.params8]) (by kernel_rfl) Tryd.underlying4 laid_out ?_ rfl ?_ (opensL_cons oa_25 opensL_nil) (N := 1048576) ?_ enc bulk_ok W (laid_8 hL) base args ds gs before hval hW (bulk_small (hcond _ rfl))
  · intro t ht
    simp only [List.mem_cons, List.not_mem_nil, or_false] at ht
    rcases ht with rfl <;> exact ⟨by kernel_rfl, by decide +kernel⟩
  · intro H ds h
    match ds, h with
    | [d0], _ => rfl
  · rintro ⟨a0, u⟩ hok hsz
    have h1 := kL_len (c := kApiContact) (fun a => by show 1 ≤ 1 + _; omega) a0.Contacts
    have h2 : (kL kApiContact).sz a0.Contacts ≤ 1048576 := by simp only [codProd, kApiRung] at hsz; omega
    exact con_law15_ReduceIsStable (stable_law a0 (by omega))

theorem said_8 : Rows.ReduceIsStableUptoSaid :=
  OpenClaim.holds_of_cond 8 Tryd.f8 rfl rfl rfl rfl rfl rfl rfl ⟨rfl, rfl, rfl, rfl, rfl⟩ rfl rfl rfl rfl rfl (by kernel_rfl) Tryd.func8 (by kernel_rfl)
    (of_decide_eq_true (by kernel_rfl)) (by unfold Func.isWrapper; first | (rw [if_pos (by decide +kernel)]; kernel_rfl) | (rw [if_neg (by decide +kernel)]; exact ⟨rfl, rfl⟩))
    (fun os started H enc _ F => by rw [OpenClaim.pre_eq_preRow]; exact lifted_8 os started H enc F)

/-- No parameter wants a stand-in; the program's own looks are off. -/
theorem plain_8 (f : FuncId) (fn : Func) (hf : Tryd.pinned.checked.prog.funcNamed Rows.reduceIsStableUptoRow.func = some f) (hfn : Tryd.pinned.checked.prog.funcs[f]? = some fn) :
    false = Tryd.pinned.checked.prog.looks [] ∧ ∀ (j : Nat) t, fn.params[j]? = some t → Tryd.pinned.checked.prog.wantsStandIn t = false := by
  obtain rfl : f = 8 := Option.some.inj ((show Tryd.prog.funcNamed Rows.reduceIsStableUptoRow.func = some 8 by kernel_rfl).symm.trans hf) |>.symm
  obtain rfl : fn = Tryd.f8 := (Option.some.inj (Tryd.func8.symm.trans hfn)).symm
  refine ⟨by kernel_rfl, fun j t ht => ?_⟩
  rw [Tryd.params8] at ht
  have hm : t ∈ [25] := by simpa using Array.mem_of_getElem? ht
  have hall : ([25].all fun u => !Tryd.prog.wantsStandIn u) = true := by kernel_rfl
  exact (show Tryd.prog.wantsStandIn t = false by simpa using List.all_eq_true.1 hall t hm)

theorem stable_holds : Rows.ReduceIsStableUptoCardSaid :=
  Claim7.holds_tied_plain_at .later [] _ _ _ _ said_8 (fun _ h => by cases h) (by kernel_rfl) (fun _ h => by cases h) reduceIsStableUpto_row_tie rfl ⟨rfl, rfl⟩ (by kernel_rfl) rfl plain_8 (by kernel_rfl)
#print axioms stable_holds
end Go.Proofs.YtaebdeidbibfkaaDoor
