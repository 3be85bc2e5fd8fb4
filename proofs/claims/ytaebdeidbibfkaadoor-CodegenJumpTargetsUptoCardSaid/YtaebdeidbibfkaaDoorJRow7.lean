/- Every jump leads to the first instruction of the rung with its label, and the rungs are contiguous: the second form (what comes in is of bulk at most 1048576), a card: the listed variables are tied to the program. -/
import Derived.Test.YtaebdeidbibfkaaDoorJR0
import Derived.Test.YtaebdeidbibfkaaDoorJGC21
import Derived.Test.YtaebdeidbibfkaaDoorJLawM13
import Derived.Test.YtaebdeidbibfkaaDoorCards
import Derived.Test.YtaebdeidbibfkaaDoorTie
set_option linter.unusedSimpArgs false
set_option linter.unusedVariables false
set_option linter.unusedSectionVars false
namespace Go.Proofs.YtaebdeidbibfkaaDoor
open Go Go.Av Go.G Go.ChangeShapes
theorem laid_7 {W : World} (h : laidMetH Tryd.prog Rows.codegenJumpTargetsUptoRow.laid W) : Laid G0 (E0of W) W := fun g => by
  by_cases e1 : g = 1
  · subst e1
    rw [look_G0_1]
    exact .inr (laid_rep (t := ((Tryd.prog.globals[1]?).map (·.type)).getD 0) (k := .i64) (zs := [0, 1, 6, 7]) h (by kernel_rfl) (List.mem_of_getElem? (i := 0) rfl) (by kernel_rfl) (by kernel_rfl) (by kernel_rfl) rfl (by simp))
  by_cases e2 : g = 2
  · subst e2
    rw [look_G0_2]
    exact .inr (laid_rep (t := ((Tryd.prog.globals[2]?).map (·.type)).getD 0) (k := .i64) (zs := [0, 0, 2, 3, 4, 5]) h (by kernel_rfl) (List.mem_of_getElem? (i := 1) rfl) (by kernel_rfl) (by kernel_rfl) (by kernel_rfl) rfl (by simp))
  by_cases e3 : g = 3
  · subst e3
    rw [look_G0_3]
    exact .inr (laid_rep (t := ((Tryd.prog.globals[3]?).map (·.type)).getD 0) (k := .i64) (zs := [0, 9, 10]) h (by kernel_rfl) (List.mem_of_getElem? (i := 2) rfl) (by kernel_rfl) (by kernel_rfl) (by kernel_rfl) rfl (by simp))
  by_cases e4 : g = 4
  · subst e4
    rw [look_G0_4]
    exact .inr (laid_rep (t := ((Tryd.prog.globals[4]?).map (·.type)).getD 0) (k := .i64) (zs := [11, 12, 13, 14]) h (by kernel_rfl) (List.mem_of_getElem? (i := 3) rfl) (by kernel_rfl) (by kernel_rfl) (by kernel_rfl) rfl (by simp))
  refine .inl ?_
  unfold G0
  rw [show Go.Av.look ((1, _) :: _) g = _ from look_val _ _ _ _, if_neg (fun q => e1 q.symm)]
  rw [show Go.Av.look ((2, _) :: _) g = _ from look_val _ _ _ _, if_neg (fun q => e2 q.symm)]
  rw [show Go.Av.look ((3, _) :: _) g = _ from look_val _ _ _ _, if_neg (fun q => e3 q.symm)]
  rw [show Go.Av.look ((4, _) :: _) g = _ from look_val _ _ _ _, if_neg (fun q => e4 q.symm)]
  rfl
noncomputable def laidWorld_7 (os : Os) : World :=
  { World.holding Tryd.prog os ⟨#[], #[], []⟩ with heap := (((((World.holding Tryd.prog os ⟨#[], #[], []⟩).heap.modify 1 fun
      | .cells _ t fr => .cells #[.int .i64 0, .int .i64 1, .int .i64 6, .int .i64 7] t fr
      | o => o).modify 2 fun
      | .cells _ t fr => .cells #[.int .i64 0, .int .i64 0, .int .i64 2, .int .i64 3, .int .i64 4, .int .i64 5] t fr
      | o => o).modify 3 fun
      | .cells _ t fr => .cells #[.int .i64 0, .int .i64 9, .int .i64 10] t fr
      | o => o).modify 4 fun
      | .cells _ t fr => .cells #[.int .i64 11, .int .i64 12, .int .i64 13, .int .i64 14] t fr
      | o => o) }
theorem laid_met_7 (os : Os) : laidMetH Tryd.prog Rows.codegenJumpTargetsUptoRow.laid ((laidWorld_7 os).forCall (fun _ _ => 0) ⟨#[], #[.agg #[.int .i64 0, .int .i64 0, .int .i64 0, .slice none 0 0]], []⟩).memory := by
  rw [Go.MakeChecks.laidMetH_plain _ _ _ (by kernel_rfl)]
  exact laidMet_of_run' 8 (by kernel_rfl) (by kernel_rfl)
theorem reads_7 (os : Os) {H : Type} (enc : TypeId × Value → H) : ∃ places, DataW.whole enc Tryd.prog ((laidWorld_7 os).forCall (fun _ _ => 0) ⟨#[], #[.agg #[.int .i64 0, .int .i64 0, .int .i64 0, .slice none 0 0]], []⟩).memory Tryd.f7.params.toList Rows.codegenJumpTargetsSpec.vars false (#[.agg #[.int .i64 0, .int .i64 0, .int .i64 0, .slice none 0 0]] : Array Value).toList 8 = some ([.agg [.lit (.int .i64 0), .lit (.int .i64 0), .lit (.int .i64 0), .nil]], [], places) :=
  ⟨[], by kernel_rfl⟩
set_option maxRecDepth 100000 in
theorem lifted_7 (os : Os) (started : os.Started) (H : Type) (enc : TypeId × Value → H) (F : Stop.Interp) :
    ReturnsInHanded {} Tryd.checked os 7 .any ((Rows.OpenSpec.upto Rows.codegenJumpTargetsSpec).preRow enc Tryd.prog Tryd.f7 Rows.codegenJumpTargetsUptoRow.domain false Rows.codegenJumpTargetsUptoRow.laid) (((Rows.OpenSpec.upto Rows.codegenJumpTargetsSpec).at F).post enc Tryd.prog Tryd.f7 false true false false) := by
  obtain ⟨places, hx⟩ := reads_7 os enc
  refine returnsInHanded_of_row (C := Tryd.checked) (s := Rows.OpenSpec.upto Rows.codegenJumpTargetsSpec) own started (by kernel_rfl) Tryd.func7
    (witness_row_at (enc := enc) (C := Tryd.checked) false (laidWorld_7 os) #[.agg #[.int .i64 0, .int .i64 0, .int .i64 0, .slice none 0 0]] rfl (by kernel_rfl) (by kernel_rfl) (by kernel_rfl)
      (OpenSpec.preRow_of_cond 8 hx (by kernel_rfl) (fun k hk => by cases hk; kernel_rfl) (by kernel_rfl) (laid_met_7 os))) ?_
  intro W base args ds gs before hval hW _ hcond _ hL _ _
  refine law_contract [66] (by rw [Tryd.params7]) (by kernel_rfl) Tryd.underlying4 laid_out ?_ rfl ?_ (opensL_cons oa_66 opensL_nil) (N := 1048576) ?_ enc bulk_ok W (laid_7 hL) base args ds gs before hval hW (bulk_small (hcond _ rfl))
  · intro t ht
    simp only [List.mem_cons, List.not_mem_nil, or_false] at ht
    rcases ht with rfl <;> exact ⟨by kernel_rfl, by decide +kernel⟩
  · intro H ds h
    match ds, h with
    | [d0], _ => rfl
  · rintro ⟨a0, u⟩ hok hsz
    have h1 := kL_len (c := kApiRung) (fun a => by simp only [kApiRung, kL]; omega) a0.Rungs
    have h2 : (kL kApiRung).sz a0.Rungs ≤ 1048576 := by simp only [codProd, kApiLadder] at hsz; omega
    have hbig : bigL a0 := ⟨by omega, fun r hr => by
      have h3 := kL_mem hr h2
      have h4 := kL_len (c := kApiContact) (fun a => by show 1 ≤ 1 + _; omega) r.Contacts
      have h5 := kL_len (c := kApiCoil) (fun a => by show 1 ≤ 1 + _; omega) r.Coils
      simp only [kApiRung] at h3
      exact ⟨by omega, by omega⟩⟩
    exact con_law17_CodegenJumpTargets (jumps_law a0 hbig)
theorem said_7 : Rows.CodegenJumpTargetsUptoSaid :=
  OpenClaim.holds_of_cond 7 Tryd.f7 rfl rfl rfl rfl rfl rfl rfl ⟨rfl, rfl, rfl, rfl, rfl⟩ rfl rfl rfl rfl rfl (by kernel_rfl) Tryd.func7 (by kernel_rfl)
    (of_decide_eq_true (by kernel_rfl)) (by unfold Func.isWrapper; first | (rw [if_pos (by decide +kernel)]; kernel_rfl) | (rw [if_neg (by decide +kernel)]; exact ⟨rfl, rfl⟩))
    (fun os started H enc _ F => by rw [OpenClaim.pre_eq_preRow]; exact lifted_7 os started H enc F)
theorem plain_7 (f : FuncId) (fn : Func) (hf : Tryd.pinned.checked.prog.funcNamed Rows.codegenJumpTargetsUptoRow.func = some f) (hfn : Tryd.pinned.checked.prog.funcs[f]? = some fn) :
    false = Tryd.pinned.checked.prog.looks [] ∧ ∀ (j : Nat) t, fn.params[j]? = some t → Tryd.pinned.checked.prog.wantsStandIn t = false := by
  obtain rfl : f = 7 := Option.some.inj ((show Tryd.prog.funcNamed Rows.codegenJumpTargetsUptoRow.func = some 7 by kernel_rfl).symm.trans hf) |>.symm
  obtain rfl : fn = Tryd.f7 := (Option.some.inj (Tryd.func7.symm.trans hfn)).symm
  refine ⟨by kernel_rfl, fun j t ht => ?_⟩
  rw [Tryd.params7] at ht
  have hm : t ∈ [66] := by simpa using Array.mem_of_getElem? ht
  have hall : ([66].all fun u => !Tryd.prog.wantsStandIn u) = true := by kernel_rfl
  exact (show Tryd.prog.wantsStandIn t = false by simpa using List.all_eq_true.1 hall t hm)
theorem jumps_holds : Rows.CodegenJumpTargetsUptoCardSaid :=
  Claim7.holds_tied_plain_at .later [] _ _ _ _ said_7 (fun _ h => by cases h) (by kernel_rfl) (fun _ h => by cases h) codegenJumpTargetsUpto_row_tie rfl ⟨rfl, rfl⟩ (by kernel_rfl) rfl plain_7 (by kernel_rfl)
#print axioms jumps_holds
end Go.Proofs.YtaebdeidbibfkaaDoor
