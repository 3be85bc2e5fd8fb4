/- Shifting the first slot shifts the slots of all edge instructions and changes nothing else: the second form (what comes in is of bulk at most 1048576), a card: the listed variables are tied to the program. -/
import Derived.Test.YtaebdeidbibfkaaDoorHR0
import Derived.Test.YtaebdeidbibfkaaDoorHGC21
import Derived.Test.YtaebdeidbibfkaaDoorHLawM12
import Derived.Test.YtaebdeidbibfkaaDoorCards
import Derived.Test.YtaebdeidbibfkaaDoorTie
set_option linter.unusedSimpArgs false
set_option linter.unusedVariables false
set_option linter.unusedSectionVars false
namespace Go.Proofs.YtaebdeidbibfkaaDoor
open Go Go.Av Go.G Go.ChangeShapes

theorem laid_6 {W : World} (h : laidMetH Tryd.prog Rows.codegenSlotOffsetUptoRow.laid W) : Laid G0 (E0of W) W := fun g => by
  by_cases e1 : g = 1
  · subst e1
    rw [look_G0_1]
    exact .inr (laid_rep (t := ((Tryd.prog.globals[1]?).map (·.type)).getD 0) (k := .i64) (zs := [0, 1, 6, 7]) h (by kernel_rfl) (List.mem_of_getElem? (i := 0) rfl) (by kernel_rfl) (by kernel_rfl) (by kernel_rfl) rfl (by simp))
  by_cases e2 : g = 2
  · subst e2
    rw [look_G0_2]
    exact .inr (laid_rep (t := ((Tryd.prog.globals[2]?).map (·.type)).getD 0) (k := .i64) (zs := [0, 0, 2, 3, 4, 5]) h (by kernel_rfl) (List.mem_of_getElem? (i := 1) rfl) (by kernel_rfl) (by kernel_rfl) (by kernel_rfl) rfl (by simp))
  by_cases e3 : g = 3
  · subst e3
    rw [look_G0_3]
    exact .inr (laid_rep (t := ((Tryd.prog.globals[3]?).map (·.type)).getD 0) (k := .i64) (zs := [0, 9, 10]) h (by kernel_rfl) (List.mem_of_getElem? (i := 2) rfl) (by kernel_rfl) (by kernel_rfl) (by kernel_rfl) rfl (by simp))
  by_cases e4 : g = 4
  · subst e4
    rw [look_G0_4]
    exact .inr (laid_rep (t := ((Tryd.prog.globals[4]?).map (·.type)).getD 0) (k := .i64) (zs := [11, 12, 13, 14]) h (by kernel_rfl) (List.mem_of_getElem? (i := 3) rfl) (by kernel_rfl) (by kernel_rfl) (by kernel_rfl) rfl (by simp))
  refine .inl ?_
  unfold G0
  rw [show Go.Av.look ((1, _) :: _) g = _ from look_val _ _ _ _, if_neg (fun q => e1 q.symm)]
  rw [show Go.Av.look ((2, _) :: _) g = _ from look_val _ _ _ _, if_neg (fun q => e2 q.symm)]
  rw [show Go.Av.look ((3, _) :: _) g = _ from look_val _ _ _ _, if_neg (fun q => e3 q.symm)]
  rw [show Go.Av.look ((4, _) :: _) g = _ from look_val _ _ _ _, if_neg (fun q => e4 q.symm)]
  rfl

noncomputable def laidWorld_6 (os : Os) : World :=
  { World.holding Tryd.prog os ⟨#[], #[], []⟩ with heap := (((((World.holding Tryd.prog os ⟨#[], #[], []⟩).heap.modify 1 fun
      | .cells _ t fr => .cells #[.int .i64 0, .int .i64 1, .int .i64 6, .int .i64 7] t fr
      | o => o).modify 2 fun
      | .cells _ t fr => .cells #[.int .i64 0, .int .i64 0, .int .i64 2, .int .i64 3, .int .i64 4, .int .i64 5] t fr
      | o => o).modify 3 fun
      | .cells _ t fr => .cells #[.int .i64 0, .int .i64 9, .int .i64 10] t fr
      | o => o).modify 4 fun
      | .cells _ t fr => .cells #[.int .i64 11, .int .i64 12, .int .i64 13, .int .i64 14] t fr
      | o => o) }
theorem laid_met_6 (os : Os) : laidMetH Tryd.prog Rows.codegenSlotOffsetUptoRow.laid ((laidWorld_6 os).forCall (fun _ _ => 0) ⟨#[], #[.agg #[.string .empty, .slice none 0 0, .slice none 0 0, .string .empty], .int .u8 0, .int .u8 0], []⟩).memory := by
  rw [Go.MakeChecks.laidMetH_plain _ _ _ (by kernel_rfl)]
  exact laidMet_of_run' 8 (by kernel_rfl) (by kernel_rfl)
theorem reads_6 (os : Os) {H : Type} (enc : TypeId × Value → H) : ∃ places, DataW.whole enc Tryd.prog ((laidWorld_6 os).forCall (fun _ _ => 0) ⟨#[], #[.agg #[.string .empty, .slice none 0 0, .slice none 0 0, .string .empty], .int .u8 0, .int .u8 0], []⟩).memory Tryd.f6.params.toList Rows.codegenSlotOffsetSpec.vars false (#[.agg #[.string .empty, .slice none 0 0, .slice none 0 0, .string .empty], .int .u8 0, .int .u8 0] : Array Value).toList 8 = some ([.agg [.lit (.string []), .nil, .nil, .lit (.string [])], .lit (.int .u8 0), .lit (.int .u8 0)], [], places) :=
  ⟨[], by kernel_rfl⟩

set_option maxRecDepth 100000 in
theorem lifted_6 (os : Os) (started : os.Started) (H : Type) (enc : TypeId × Value → H) (F : Stop.Interp) :
    ReturnsInHanded {} Tryd.checked os 6 .any ((Rows.OpenSpec.upto Rows.codegenSlotOffsetSpec).preRow enc Tryd.prog Tryd.f6 Rows.codegenSlotOffsetUptoRow.domain false Rows.codegenSlotOffsetUptoRow.laid) (((Rows.OpenSpec.upto Rows.codegenSlotOffsetSpec).at F).post enc Tryd.prog Tryd.f6 false true false false) := by
  obtain ⟨places, hx⟩ := reads_6 os enc
  refine returnsInHanded_of_row (C := Tryd.checked) (s := Rows.OpenSpec.upto Rows.codegenSlotOffsetSpec) own started (by kernel_rfl) Tryd.func6
    (witness_row_at (enc := enc) (C := Tryd.checked) false (laidWorld_6 os) #[.agg #[.string .empty, .slice none 0 0, .slice none 0 0, .string .empty], .int .u8 0, .int .u8 0] rfl (by kernel_rfl) (by kernel_rfl) (by kernel_rfl)
      (OpenSpec.preRow_of_cond 8 hx (by kernel_rfl) (fun k hk => by cases hk; kernel_rfl) (by kernel_rfl) (laid_met_6 os))) ?_
  intro W base args ds gs before hval hW _ hcond _ hL _ _
  refine law_contract [25, 5, 5] (by rw [Tryd.params6]) (by kernel_rfl) Tryd.underlying4 laid_out ?_ rfl ?_ (opensL_cons oa_25 (opensL_cons oa_5 (opensL_cons oa_5 opensL_nil))) (N := 1048576) ?_ enc bulk_ok W (laid_6 hL) base args ds gs before hval hW (bulk_small (hcond _ rfl))
  · intro t ht
    simp only [List.mem_cons, List.not_mem_nil, or_false] at ht
    rcases ht with rfl | rfl | rfl <;> exact ⟨by kernel_rfl, by decide +kernel⟩
  · intro H ds h
    match ds, h with
    | [d0, d1, d2], _ => rfl
  · rintro ⟨a0, a1, a2, u⟩ hok hsz
    have h1 := kL_len (c := kApiContact) (fun a => by show 1 ≤ 1 + _; omega) a0.Contacts
    have h2 : (kL kApiContact).sz a0.Contacts ≤ 1048576 := by simp only [codProd, kApiRung] at hsz; omega
    have h3 : (decide ((0 : Int) ≤ a1) && decide (a1 ≤ (255 : Int))) = true := hok.2.1
    rw [Bool.and_eq_true, decide_eq_true_eq, decide_eq_true_eq] at h3
    have h4 : (decide ((0 : Int) ≤ a2) && decide (a2 ≤ (255 : Int))) = true := hok.2.2.1
    rw [Bool.and_eq_true, decide_eq_true_eq, decide_eq_true_eq] at h4
    exact con_law17_CodegenSlotOffset (slot_law a0 a1 a2 h3 h4 (by omega))

theorem said_6 : Rows.CodegenSlotOffsetUptoSaid :=
  OpenClaim.holds_of_cond 6 Tryd.f6 rfl rfl rfl rfl rfl rfl rfl ⟨rfl, rfl, rfl, rfl, rfl⟩ rfl rfl rfl rfl rfl (by kernel_rfl) Tryd.func6 (by kernel_rfl)
    (of_decide_eq_true (by kernel_rfl)) (by unfold Func.isWrapper; first | (rw [if_pos (by decide +kernel)]; kernel_rfl) | (rw [if_neg (by decide +kernel)]; exact ⟨rfl, rfl⟩))
    (fun os started H enc _ F => by rw [OpenClaim.pre_eq_preRow]; exact lifted_6 os started H enc F)

/-- No parameter wants a stand-in; the program's own looks are off. -/
theorem plain_6 (f : FuncId) (fn : Func) (hf : Tryd.pinned.checked.prog.funcNamed Rows.codegenSlotOffsetUptoRow.func = some f) (hfn : Tryd.pinned.checked.prog.funcs[f]? = some fn) :
    false = Tryd.pinned.checked.prog.looks [] ∧ ∀ (j : Nat) t, fn.params[j]? = some t → Tryd.pinned.checked.prog.wantsStandIn t = false := by
  obtain rfl : f = 6 := Option.some.inj ((show Tryd.prog.funcNamed Rows.codegenSlotOffsetUptoRow.func = some 6 by kernel_rfl).symm.trans hf) |>.symm
  obtain rfl : fn = Tryd.f6 := (Option.some.inj (Tryd.func6.symm.trans hfn)).symm
  refine ⟨by kernel_rfl, fun j t ht => ?_⟩
  rw [Tryd.params6] at ht
  have hm : t ∈ [25, 5, 5] := by simpa using Array.mem_of_getElem? ht
  have hall : ([25, 5, 5].all fun u => !Tryd.prog.wantsStandIn u) = true := by kernel_rfl
  exact (show Tryd.prog.wantsStandIn t = false by simpa using List.all_eq_true.1 hall t hm)

theorem slot_holds : Rows.CodegenSlotOffsetUptoCardSaid :=
  Claim7.holds_tied_plain_at .later [] _ _ _ _ said_6 (fun _ h => by cases h) (by kernel_rfl) (fun _ h => by cases h) codegenSlotOffsetUpto_row_tie rfl ⟨rfl, rfl⟩ (by kernel_rfl) rfl plain_6 (by kernel_rfl)
#print axioms slot_holds
end Go.Proofs.YtaebdeidbibfkaaDoor
