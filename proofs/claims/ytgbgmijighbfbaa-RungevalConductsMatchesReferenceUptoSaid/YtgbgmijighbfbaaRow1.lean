/- For every rung and every assignment of its contacts, Conducts returns the same result as the reference: the second form (what comes in is of bulk at most 1048576). -/
import Derived.Test.YtgbgmijighbfbaaR0
set_option linter.unusedSimpArgs false
set_option linter.unusedVariables false
namespace Go.Proofs.Ytgbgmijighbfbaa
open Go.Av Go.ChangeShapes

set_option maxRecDepth 100000 in
theorem lifted_conducts (os : Os) (started : os.Started) (H : Type) (enc : TypeId × Value → H) (F : Stop.Interp) :
    ReturnsInHanded {} Try.checked os 3 .any ((Rows.OpenSpec.upto Rows.rungevalConductsMatchesReferenceSpec).pre6 enc Try.prog Try.f3 Rows.rungevalConductsMatchesReferenceUptoRow.domain false) (((Rows.OpenSpec.upto Rows.rungevalConductsMatchesReferenceSpec).at F).post enc Try.prog Try.f3 false true false false) := by
  refine returnsInHanded_of_cond (C := Try.checked) (s := Rows.OpenSpec.upto Rows.rungevalConductsMatchesReferenceSpec) (k := Rows.uptoSmall) rfl own started (by kernel_rfl) Try.func3
    (OpenSpec.witness (enc := enc) (C := Try.checked) (s := Rows.OpenSpec.upto Rows.rungevalConductsMatchesReferenceSpec) (k := Rows.uptoSmall) rfl false ⟨#[], #[.agg #[.string .empty, .slice none 0 0, .slice none 0 0, .string .empty], .slice none 0 0], []⟩ 8 (by kernel_rfl) (by kernel_rfl) (by kernel_rfl)
      (x := ([.agg [.lit (.string []), .nil, .nil, .lit (.string [])], .nil], [], [])) (by kernel_rfl) rfl (by kernel_rfl)) ?_
  intro W base args ds gs before hval hW _ hk _
  refine law_contract [25, 26] (by rw [Try.params3]) (by kernel_rfl) Try.underlying4 laid_out ?_ rfl ?_ (opensL_cons oa_rung (opensL_cons oa_bools opensL_nil)) (N := 1048576) ?_ enc bulk_ok W base args ds gs before hval hW (bulk_small hk)
  · intro t ht
    simp only [List.mem_cons, List.not_mem_nil, or_false] at ht
    rcases ht with rfl | rfl <;> exact ⟨by kernel_rfl, by decide +kernel⟩
  · intro H ds h
    match ds, h with
    | [d1, d2], _ => rfl
  · rintro ⟨⟨lab, cs, os, j⟩, on, u⟩ _ hsz
    simp only [codProd, codRung, codBools, codUnit] at hsz
    exact law_conducts lab j cs os on (by omega)

theorem conducts_holds : Rows.RungevalConductsMatchesReferenceUptoSaid :=
  OpenClaim.holds_of_cond 3 Try.f3 rfl rfl rfl rfl rfl rfl rfl ⟨rfl, rfl, rfl, rfl, rfl⟩ rfl rfl rfl rfl rfl (by kernel_rfl) Try.func3 (by kernel_rfl)
    (of_decide_eq_true (by kernel_rfl)) (by unfold Func.isWrapper; first | (rw [if_pos (by decide +kernel)]; kernel_rfl) | (rw [if_neg (by decide +kernel)]; exact ⟨rfl, rfl⟩))
    (fun os started H enc _ F => lifted_conducts os started H enc F)
#print axioms conducts_holds
end Go.Proofs.Ytgbgmijighbfbaa
