/- For every rung, assignment and index, Conducts is monotone: the second form (what comes in is of bulk at most 1048576). -/
import Derived.Test.YtgbgmijighbfbaaR0
import Derived.Test.YtgbgmijighbfbaaGC1
import Derived.Test.YtgbgmijighbfbaaP7
set_option linter.unusedSimpArgs false
set_option linter.unusedVariables false
set_option linter.unusedSectionVars false
namespace Go.Proofs.Ytgbgmijighbfbaa
open Go.Av Go.G Go.ChangeShapes

set_option maxRecDepth 100000 in
theorem lifted_6 (os : Os) (started : os.Started) (H : Type) (enc : TypeId × Value → H) (F : Stop.Interp) :
    ReturnsInHanded {} Try.checked os 6 .any ((Rows.OpenSpec.upto Rows.rungevalIsMonotoneSpec).pre6 enc Try.prog Try.f6 Rows.rungevalIsMonotoneUptoRow.domain false) (((Rows.OpenSpec.upto Rows.rungevalIsMonotoneSpec).at F).post enc Try.prog Try.f6 false true false false) := by
  refine returnsInHanded_of_cond (C := Try.checked) (s := Rows.OpenSpec.upto Rows.rungevalIsMonotoneSpec) (k := Rows.uptoSmall) rfl own started (by kernel_rfl) Try.func6
    (OpenSpec.witness (enc := enc) (C := Try.checked) (s := Rows.OpenSpec.upto Rows.rungevalIsMonotoneSpec) (k := Rows.uptoSmall) rfl false ⟨#[], #[.agg #[.string .empty, .slice none 0 0, .slice none 0 0, .string .empty], .slice none 0 0, .int .u8 0], []⟩ 8 (by kernel_rfl) (by kernel_rfl) (by kernel_rfl)
      (x := ([.agg [.lit (.string []), .nil, .nil, .lit (.string [])], .nil, .lit (.int .u8 0)], [], [])) (by kernel_rfl) rfl (by kernel_rfl)) ?_
  intro W base args ds gs before hval hW _ hk _
  refine law_contract [25, 26, 5] (by rw [Try.params6]) (by kernel_rfl) Try.underlying4 laid_out ?_ rfl ?_ (opensL_cons oa_25 (opensL_cons oa_26 (opensL_cons oa_5 opensL_nil))) (N := 1048576) ?_ enc bulk_ok W base args ds gs before hval hW (bulk_small hk)
  · intro t ht
    simp only [List.mem_cons, List.not_mem_nil, or_false] at ht
    rcases ht with rfl | rfl | rfl <;> exact ⟨by kernel_rfl, by decide +kernel⟩
  · intro H ds h
    match ds, h with
    | [d0, d1, d2], _ => rfl
  · rintro ⟨a0, a1, a2, u⟩ hok hsz
    have h1 := kL_len (c := kApiContact) (fun a => by show 1 ≤ 1 + _; omega) a0.Contacts
    have h2 : (kL kApiContact).sz a0.Contacts ≤ 1048576 := by simp only [codProd, kApiRung] at hsz; omega
    have hb : 0 ≤ a2 ∧ a2 ≤ 255 := by
      have h : (Lit.int .u8 a2).wf = true := hok.2.2.1
      simp only [Lit.wf, Bool.and_eq_true, decide_eq_true_eq] at h
      have e1 : IntKind.min .u8 = 0 := by decide
      have e2 : IntKind.max .u8 = 255 := by decide
      rw [e1, e2] at h; exact h
    exact con_law16_RungevalIsMonotone (mono_law a0 a1 a2 (by omega) hb.1 hb.2)

theorem mono_holds : Rows.RungevalIsMonotoneUptoSaid :=
  OpenClaim.holds_of_cond 6 Try.f6 rfl rfl rfl rfl rfl rfl rfl ⟨rfl, rfl, rfl, rfl, rfl⟩ rfl rfl rfl rfl rfl (by kernel_rfl) Try.func6 (by kernel_rfl)
    (of_decide_eq_true (by kernel_rfl)) (by unfold Func.isWrapper; first | (rw [if_pos (by decide +kernel)]; kernel_rfl) | (rw [if_neg (by decide +kernel)]; exact ⟨rfl, rfl⟩))
    (fun os started H enc _ F => lifted_6 os started H enc F)
#print axioms mono_holds
end Go.Proofs.Ytgbgmijighbfbaa
