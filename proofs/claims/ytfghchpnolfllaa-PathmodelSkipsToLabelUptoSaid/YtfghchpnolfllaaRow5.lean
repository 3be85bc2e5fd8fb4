/- For every ladder, state and inputs, a taken jump skips all rungs up to the one with its label: the second form (what comes in is of bulk at most 1048576). -/
import Derived.Test.YtfghchpnolfllaaR0
import Derived.Test.YtfghchpnolfllaaGC12
import Derived.Test.YtfghchpnolfllaaLawM12
set_option linter.unusedSimpArgs false
set_option linter.unusedVariables false
set_option linter.unusedSectionVars false
namespace Go.Proofs.Ytfghchpnolfllaa
open Go.Av Go.G Go.ChangeShapes

set_option maxRecDepth 100000 in
theorem lifted_5 (os : Os) (started : os.Started) (H : Type) (enc : TypeId × Value → H) (F : Stop.Interp) :
    ReturnsInHanded {} Try.checked os 5 .any ((Rows.OpenSpec.upto Rows.pathmodelSkipsToLabelSpec).pre6 enc Try.prog Try.f5 Rows.pathmodelSkipsToLabelUptoRow.domain false) (((Rows.OpenSpec.upto Rows.pathmodelSkipsToLabelSpec).at F).post enc Try.prog Try.f5 false true false false) := by
  refine returnsInHanded_of_cond (C := Try.checked) (s := Rows.OpenSpec.upto Rows.pathmodelSkipsToLabelSpec) (k := Rows.uptoSmall) rfl own started (by kernel_rfl) Try.func5
    (OpenSpec.witness (enc := enc) (C := Try.checked) (s := Rows.OpenSpec.upto Rows.pathmodelSkipsToLabelSpec) (k := Rows.uptoSmall) rfl false ⟨#[], #[.agg #[.int .i64 0, .int .i64 0, .int .i64 0, .slice none 0 0], .agg #[.slice none 0 0, .slice none 0 0, .slice none 0 0], .slice none 0 0], []⟩ 8 (by kernel_rfl) (by kernel_rfl) (by kernel_rfl)
      (x := ([.agg [.lit (.int .i64 0), .lit (.int .i64 0), .lit (.int .i64 0), .nil], .agg [.nil, .nil, .nil], .nil], [], [])) (by kernel_rfl) rfl (by kernel_rfl)) ?_
  intro W base args ds gs before hval hW _ hk _
  refine law_contract [24, 27, 25] (by rw [Try.params5]) (by kernel_rfl) Try.underlying4 laid_out ?_ rfl ?_ (opensL_cons oa_24 (opensL_cons oa_27 (opensL_cons oa_25 opensL_nil))) (N := 1048576) ?_ enc bulk_ok W base args ds gs before hval hW (bulk_small hk)
  · intro t ht
    simp only [List.mem_cons, List.not_mem_nil, or_false] at ht
    rcases ht with rfl | rfl | rfl <;> exact ⟨by kernel_rfl, by decide +kernel⟩
  · intro H ds h
    match ds, h with
    | [d0, d1, d2], _ => rfl
  · rintro ⟨a0, a1, a2, u⟩ hok hsz
    have h1 := kL_len (c := kApiRung) (fun a => by simp only [kApiRung, kL]; omega) a0.Rungs
    have h2 : (kL kApiRung).sz a0.Rungs ≤ 1048576 := by simp only [codProd, kApiLadder] at hsz; omega
    have hbig : bigL a0 := ⟨by omega, fun r hr => by
      have h3 := kL_mem hr h2
      have h4 := kL_len (c := kApiContact) (fun a => by show 1 ≤ 1 + _; omega) r.Contacts
      have h5 := kL_len (c := kApiCoil) (fun a => by show 1 ≤ 1 + _; omega) r.Coils
      simp only [kApiRung] at h3
      exact ⟨by omega, by omega⟩⟩
    exact con_law20_PathmodelSkipsToLabel (jump20_law a0 a1 a2 hbig)

theorem jump_holds : Rows.PathmodelSkipsToLabelUptoSaid :=
  OpenClaim.holds_of_cond 5 Try.f5 rfl rfl rfl rfl rfl rfl rfl ⟨rfl, rfl, rfl, rfl, rfl⟩ rfl rfl rfl rfl rfl (by kernel_rfl) Try.func5 (by kernel_rfl)
    (of_decide_eq_true (by kernel_rfl)) (by unfold Func.isWrapper; first | (rw [if_pos (by decide +kernel)]; kernel_rfl) | (rw [if_neg (by decide +kernel)]; exact ⟨rfl, rfl⟩))
    (fun os started H enc _ F => lifted_5 os started H enc F)
#print axioms jump_holds
end Go.Proofs.Ytfghchpnolfllaa
