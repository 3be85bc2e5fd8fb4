/- A series-parallel rung conducts exactly if its tree conducts: the second form (what comes in is of bulk at most 1048576). -/
import Derived.Test.YtcpbhkplgnhmkaaR0
import Derived.Test.YtcpbhkplgnhmkaaGC19
import Derived.Test.YtcpbhkplgnhmkaaLawM12
set_option linter.unusedSimpArgs false
set_option linter.unusedVariables false
set_option linter.unusedSectionVars false
namespace Go.Proofs.Ytcpbhkplgnhmkaa
open Go.Av Go.G Go.ChangeShapes

set_option maxRecDepth 100000 in
theorem lifted_3 (os : Os) (started : os.Started) (H : Type) (enc : TypeId × Value → H) (F : Stop.Interp) :
    ReturnsInHanded {} Try.checked os 3 .any ((Rows.OpenSpec.upto Rows.rungevalAgreesWithTreeSpec).pre6 enc Try.prog Try.f3 Rows.rungevalAgreesWithTreeUptoRow.domain false) (((Rows.OpenSpec.upto Rows.rungevalAgreesWithTreeSpec).at F).post enc Try.prog Try.f3 false true false false) := by
  refine returnsInHanded_of_cond (C := Try.checked) (s := Rows.OpenSpec.upto Rows.rungevalAgreesWithTreeSpec) (k := Rows.uptoSmall) rfl own started (by kernel_rfl) Try.func3
    (OpenSpec.witness (enc := enc) (C := Try.checked) (s := Rows.OpenSpec.upto Rows.rungevalAgreesWithTreeSpec) (k := Rows.uptoSmall) rfl false ⟨#[], #[.agg #[.string .empty, .slice none 0 0, .slice none 0 0, .string .empty], .slice none 0 0], []⟩ 8 (by kernel_rfl) (by kernel_rfl) (by kernel_rfl)
      (x := ([.agg [.lit (.string []), .nil, .nil, .lit (.string [])], .nil], [], [])) (by kernel_rfl) rfl (by kernel_rfl)) ?_
  intro W base args ds gs before hval hW _ hk _
  refine law_contract [25, 26] (by rw [Try.params3]) (by kernel_rfl) Try.underlying4 laid_out ?_ rfl ?_ (opensL_cons oa_25 (opensL_cons oa_26 opensL_nil)) (N := 1048576) ?_ enc bulk_ok W (show Laid G0 (E0of W) W from fun g => .inl rfl) base args ds gs before hval hW (bulk_small hk)
  · intro t ht
    simp only [List.mem_cons, List.not_mem_nil, or_false] at ht
    rcases ht with rfl | rfl <;> exact ⟨by kernel_rfl, by decide +kernel⟩
  · intro H ds h
    match ds, h with
    | [d0, d1], _ => rfl
  · rintro ⟨a0, a1, u⟩ hok hsz
    have h1 := kL_len (c := kApiContact) (fun a => by show 1 ≤ 1 + _; omega) a0.Contacts
    have h2 : (kL kApiContact).sz a0.Contacts ≤ 1048576 := by simp only [codProd, kApiRung] at hsz; omega
    exact con_law16_RungevalAgreesWithTree (agree_law a0 a1 (by omega))

theorem agree_holds : Rows.RungevalAgreesWithTreeUptoSaid :=
  OpenClaim.holds_of_cond 3 Try.f3 rfl rfl rfl rfl rfl rfl rfl ⟨rfl, rfl, rfl, rfl, rfl⟩ rfl rfl rfl rfl rfl (by kernel_rfl) Try.func3 (by kernel_rfl)
    (of_decide_eq_true (by kernel_rfl)) (by unfold Func.isWrapper; first | (rw [if_pos (by decide +kernel)]; kernel_rfl) | (rw [if_neg (by decide +kernel)]; exact ⟨rfl, rfl⟩))
    (fun os started H enc _ F => lifted_3 os started H enc F)
#print axioms agree_holds
end Go.Proofs.Ytcpbhkplgnhmkaa
