/- For every tree and every list of contacts, Expand returns the same result as the reference: the second form (what comes in is of bulk at most 1048576), a card: the listed variables are tied to the program. -/
import Derived.Test.YtaebdeidbibfkaaGreatDoorWR0
import Derived.Test.YtaebdeidbibfkaaGreatDoorWGC19
import Derived.Test.YtaebdeidbibfkaaGreatDoorWLawM10
import Derived.Test.YtaebdeidbibfkaaGreatDoorWTSw
import Derived.Test.YtaebdeidbibfkaaGreatDoorCards
import Derived.Test.YtaebdeidbibfkaaGreatDoorTie
set_option linter.unusedSimpArgs false
set_option linter.unusedVariables false
set_option linter.unusedSectionVars false
namespace Go.Proofs.YtaebdeidbibfkaaGreatDoor
open Go Go.Av Go.G Go.ChangeShapes

theorem laid_6 {W : World} (h : laidMetH Tryz.prog Rows.reduceExpandMatchesReferenceUptoRow.laid W) : Laid G0 (E0of W) W := fun g => by
  by_cases e1 : g = 1
  · subst e1
    rw [look_G0_1]
    exact .inr (laid_rep (t := ((Tryz.prog.globals[1]?).map (·.type)).getD 0) (k := .u8) (zs := [0, 0, 91, 93, 123, 125]) h (by kernel_rfl) (List.mem_of_getElem? (i := 3) rfl) (by kernel_rfl) (by kernel_rfl) (by kernel_rfl) rfl (by simp))
  by_cases e5 : g = 5
  · subst e5
    rw [look_G0_5]
    exact .inr (laid_rep (t := ((Tryz.prog.globals[5]?).map (·.type)).getD 0) (k := .u64) (zs := [1, 10, 100, 1000, 10000, 100000, 1000000, 10000000, 100000000, 1000000000, 10000000000, 100000000000, 1000000000000, 10000000000000, 100000000000000, 1000000000000000, 10000000000000000, 100000000000000000, 1000000000000000000, 10000000000000000000]) h (by kernel_rfl) (List.mem_of_getElem? (i := 2) rfl) (by kernel_rfl) (by kernel_rfl) (by kernel_rfl) rfl (by simp))
  refine .inl ?_
  unfold G0
  rw [show Go.Av.look ((1, _) :: _) g = _ from look_val _ _ _ _, if_neg (fun q => e1 q.symm)]
  rw [show Go.Av.look ((5, _) :: _) g = _ from look_val _ _ _ _, if_neg (fun q => e5 q.symm)]
  rfl

noncomputable def laidWorld_6 (os : Os) : World :=
  { World.holding Tryz.prog os ⟨#[], #[], []⟩ with heap := (((((World.holding Tryz.prog os ⟨#[], #[], []⟩).heap.modify 7 fun
      | .cells _ t fr => .cells #[.int .u8 0, .int .u8 1, .int .u8 28, .int .u8 2, .int .u8 29, .int .u8 14, .int .u8 24, .int .u8 3, .int .u8 30, .int .u8 22, .int .u8 20, .int .u8 15, .int .u8 25, .int .u8 17, .int .u8 4, .int .u8 8, .int .u8 31, .int .u8 27, .int .u8 13, .int .u8 23, .int .u8 21, .int .u8 19, .int .u8 16, .int .u8 7, .int .u8 26, .int .u8 12, .int .u8 18, .int .u8 6, .int .u8 11, .int .u8 5, .int .u8 10, .int .u8 9] t fr
      | o => o).modify 8 fun
      | .cells _ t fr => .cells #[.int .u8 0, .int .u8 1, .int .u8 56, .int .u8 2, .int .u8 57, .int .u8 49, .int .u8 28, .int .u8 3, .int .u8 61, .int .u8 58, .int .u8 42, .int .u8 50, .int .u8 38, .int .u8 29, .int .u8 17, .int .u8 4, .int .u8 62, .int .u8 47, .int .u8 59, .int .u8 36, .int .u8 45, .int .u8 43, .int .u8 51, .int .u8 22, .int .u8 53, .int .u8 39, .int .u8 33, .int .u8 30, .int .u8 24, .int .u8 18, .int .u8 12, .int .u8 5, .int .u8 63, .int .u8 55, .int .u8 48, .int .u8 27, .int .u8 60, .int .u8 41, .int .u8 37, .int .u8 16, .int .u8 46, .int .u8 35, .int .u8 44, .int .u8 21, .int .u8 52, .int .u8 32, .int .u8 23, .int .u8 11, .int .u8 54, .int .u8 26, .int .u8 40, .int .u8 15, .int .u8 34, .int .u8 20, .int .u8 31, .int .u8 10, .int .u8 25, .int .u8 14, .int .u8 19, .int .u8 9, .int .u8 13, .int .u8 8, .int .u8 7, .int .u8 6] t fr
      | o => o).modify 5 fun
      | .cells _ t fr => .cells #[.int .u64 1, .int .u64 10, .int .u64 100, .int .u64 1000, .int .u64 10000, .int .u64 100000, .int .u64 1000000, .int .u64 10000000, .int .u64 100000000, .int .u64 1000000000, .int .u64 10000000000, .int .u64 100000000000, .int .u64 1000000000000, .int .u64 10000000000000, .int .u64 100000000000000, .int .u64 1000000000000000, .int .u64 10000000000000000, .int .u64 100000000000000000, .int .u64 1000000000000000000, .int .u64 10000000000000000000] t fr
      | o => o).modify 1 fun
      | .cells _ t fr => .cells #[.int .u8 0, .int .u8 0, .int .u8 91, .int .u8 93, .int .u8 123, .int .u8 125] t fr
      | o => o) }
theorem laid_met_6 (os : Os) : laidMetH Tryz.prog Rows.reduceExpandMatchesReferenceUptoRow.laid ((laidWorld_6 os).forCall (fun _ _ => 0) ⟨#[], #[.agg #[.int .i64 0, .int .i64 0, .slice none 0 0], .slice none 0 0], []⟩).memory := by
  rw [Go.MakeChecks.laidMetH_plain _ _ _ (by kernel_rfl)]
  exact laidMet_of_run' 8 (by kernel_rfl) (by kernel_rfl)
theorem reads_6 (os : Os) {H : Type} (enc : TypeId × Value → H) : ∃ places, DataW.whole enc Tryz.prog ((laidWorld_6 os).forCall (fun _ _ => 0) ⟨#[], #[.agg #[.int .i64 0, .int .i64 0, .slice none 0 0], .slice none 0 0], []⟩).memory Tryz.f6.params.toList Rows.reduceExpandMatchesReferenceSpec.vars false (#[.agg #[.int .i64 0, .int .i64 0, .slice none 0 0], .slice none 0 0] : Array Value).toList 8 = some ([.agg [.lit (.int .i64 0), .lit (.int .i64 0), .nil], .nil], [], places) :=
  ⟨[], by kernel_rfl⟩

set_option maxRecDepth 100000 in
theorem lifted_6 (os : Os) (started : os.Started) (H : Type) (enc : TypeId × Value → H) (F : Stop.Interp) :
    ReturnsInHanded {} Tryz.checked os 6 .any ((Rows.OpenSpec.upto Rows.reduceExpandMatchesReferenceSpec).preRow enc Tryz.prog Tryz.f6 Rows.reduceExpandMatchesReferenceUptoRow.domain false Rows.reduceExpandMatchesReferenceUptoRow.laid) (((Rows.OpenSpec.upto Rows.reduceExpandMatchesReferenceSpec).at F).post enc Tryz.prog Tryz.f6 false true false false) := by
  obtain ⟨places, hx⟩ := reads_6 os enc
  refine returnsInHanded_of_row (C := Tryz.checked) (s := Rows.OpenSpec.upto Rows.reduceExpandMatchesReferenceSpec) own started (by kernel_rfl) Tryz.func6
    (witness_row_at (enc := enc) (C := Tryz.checked) false (laidWorld_6 os) #[.agg #[.int .i64 0, .int .i64 0, .slice none 0 0], .slice none 0 0] rfl (by kernel_rfl) (by kernel_rfl) (by kernel_rfl)
      (OpenSpec.preRow_of_cond 8 hx (by kernel_rfl) (fun k hk => by cases hk; kernel_rfl) (by kernel_rfl) (laid_met_6 os))) ?_
  intro W base args ds gs before hval hW _ hcond _ hL _ _
  refine law_contract [30, 22] (by rw [Tryz.params6]) (by kernel_rfl) Tryz.underlying4 laid_out ?_ rfl ?_ (opensL_cons oa_30 (opensL_cons oa_22 opensL_nil)) (N := 1048576) ?_ enc bulk_ok W (laid_6 hL) base args ds gs before hval hW (bulk_small (hcond _ rfl))
  · intro t ht
    simp only [List.mem_cons, List.not_mem_nil, or_false] at ht
    rcases ht with rfl | rfl <;> exact ⟨by kernel_rfl, by decide +kernel⟩
  · intro H ds h
    match ds, h with
    | [d0, d1], _ => rfl
  · rintro ⟨a0, a1, u⟩ hok hsz
    have h2 : sTreeTree a0 ≤ 1048576 := by simp only [codProd, kTreeTree] at hsz; omega
    rw [cTreeTree_eq]
    exact con_law15_ReduceExpandMatchesReference (expand_law a0 a1 (by rw [sz_eq]; exact h2))

theorem said_6 : Rows.ReduceExpandMatchesReferenceUptoSaid :=
  OpenClaim.holds_of_cond 6 Tryz.f6 rfl rfl rfl rfl rfl rfl rfl ⟨rfl, rfl, rfl, rfl, rfl⟩ rfl rfl rfl rfl rfl (by kernel_rfl) Tryz.func6 (by kernel_rfl)
    (of_decide_eq_true (by kernel_rfl)) (by unfold Func.isWrapper; first | (rw [if_pos (by decide +kernel)]; kernel_rfl) | (rw [if_neg (by decide +kernel)]; exact ⟨rfl, rfl⟩))
    (fun os started H enc _ F => by rw [OpenClaim.pre_eq_preRow]; exact lifted_6 os started H enc F)

/-- No parameter wants a stand-in; the program's own looks are off. -/
theorem plain_6 (f : FuncId) (fn : Func) (hf : Tryz.pinned.checked.prog.funcNamed Rows.reduceExpandMatchesReferenceUptoRow.func = some f) (hfn : Tryz.pinned.checked.prog.funcs[f]? = some fn) :
    false = Tryz.pinned.checked.prog.looks [] ∧ ∀ (j : Nat) t, fn.params[j]? = some t → Tryz.pinned.checked.prog.wantsStandIn t = false := by
  obtain rfl : f = 6 := Option.some.inj ((show Tryz.prog.funcNamed Rows.reduceExpandMatchesReferenceUptoRow.func = some 6 by kernel_rfl).symm.trans hf) |>.symm
  obtain rfl : fn = Tryz.f6 := (Option.some.inj (Tryz.func6.symm.trans hfn)).symm
  refine ⟨by kernel_rfl, fun j t ht => ?_⟩
  rw [Tryz.params6] at ht
  have hm : t ∈ [30, 22] := by simpa using Array.mem_of_getElem? ht
  have hall : ([30, 22].all fun u => !Tryz.prog.wantsStandIn u) = true := by kernel_rfl
  exact (show Tryz.prog.wantsStandIn t = false by simpa using List.all_eq_true.1 hall t hm)

theorem expand_holds : Rows.ReduceExpandMatchesReferenceUptoCardSaid :=
  Claim7.holds_tied_plain_at .later [] _ _ _ _ said_6 (fun _ h => by cases h) (by kernel_rfl) (fun _ h => by cases h) reduceExpandMatchesReferenceUpto_row_tie rfl ⟨rfl, rfl⟩ (by kernel_rfl) rfl plain_6 (by kernel_rfl)
#print axioms expand_holds
end Go.Proofs.YtaebdeidbibfkaaGreatDoor
