/- Contracts of functions of packages slices and state. -/
import Derived.Test.YtgbgmijighbfbaaT1
set_option linter.unusedSimpArgs false
set_option linter.unusedVariables false
namespace Go.Proofs.Ytgbgmijighbfbaa
open Go.Av
attribute [local simp] runf guardA opf St.ev Go.Av.look St.setd constAV constAV0 opBin opLen intBin St.need lookT TT0 tab resA resOne resAll blt_dec ble_dec beq_dec isPure
attribute [local simp] opMakeSlice opCopy opIndexAddr opLoad opStore St.mem St.rows opUn calleeA toArgs toArg toArg0 shift shift0 shift1 splice cellsOf isFree ofCells TS.isAgg isCell
attribute [local simp] aBools opBuildSlice fillA opAppend St.newBox runI valKind withinB readsHp refsD refs noSl opFieldAddr opBuild placeOf Op.operands Call.operands

theorem clone_con (l : List Bool) (hl : l.length ≤ 1000000) : Con Try.prog 39 [aBools l] (aBools l) [] := by
  refine con_of (T := TT0) tt_ok Try.func39 (c := _) (by unfold Try.f39; rfl) Try.ntmps39 (rs := [.tmp 2]) (by rw [Try.results39]) (by unfold Try.f39; rfl) (by simp) ?_
  simp only [argsCh, aBools]
  refine Wp.run (own := fun _ => false) tt_ok (r := ?_) ?_ ?_ ?_
  rotate_left
  · simp; rfl
  · simp
  refine Wp.seq (Wp.reg_seq (own := fun _ => false) tt_ok ?_)
  refine regv_upto 1 (r := ?_) ?_ ?_ ?_
  rotate_left
  · simp; rfl
  · simp
  refine regv_isnil rfl (.inl rfl) rfl rfl rfl rfl rfl fun b hb => ⟨_, rfl, ?_⟩
  show Wp _ _ _ _
  refine Wp.cond b rfl (fun h => ?_) (fun h => ?_)
  · refine Wp.run (own := fun _ => false) tt_ok (r := ?_) ?_ ?_ ?_
    rotate_left
    · simp; rfl
    · simp
    refine Wp.ret (endQ_ret0 rfl ?_)
    rw [hb h]
    exact .nil _
  · refine Wp.skip ?_
    show Wp _ _ _ _
    refine Wp.run (own := fun _ => false) tt_ok (r := ?_) ?_ ?_ ?_
    rotate_left
    · simp; rfl
    · simp; omega
    refine Wp.ret (endQ_ret0 rfl ?_)
    exact .refl _ rfl

def aState (q m e : List Bool) : AV := .agg [aBools q, aBools m, aBools e]

theorem mixed : Try.prog.follows .mixedOrders = true := by kernel_rfl

theorem sclone_con (q m e : List Bool) (hq : q.length ≤ 1000000) (hm : m.length ≤ 1000000) (he : e.length ≤ 1000000) : Con Try.prog 29 [aState q m e] (aState q m e) [] := by
  refine con_of (T := TT0) tt_ok Try.func29 (c := _) (by unfold Try.f29; rfl) Try.ntmps29 (rs := [.cell 2 36]) (by rw [Try.results29]) (by unfold Try.f29; rfl) (by simp) ?_
  simp only [argsCh, aState, aBools]
  refine Wp.run (own := fun _ => false) tt_ok (r := ?_) ?_ ?_ ?_
  rotate_left
  · simp; rfl
  · simp
  refine Wp.drawn (own := fun _ => false) tt_ok mixed [0] (by decide +kernel) trivial ?_
  refine regI_upto 2 (r := ?_) ?_ ?_ ?_
  rotate_left
  · simp [List.range, List.range.loop]; rfl
  · simp
  refine regI_call (clone_con q hq) rfl rfl rfl rfl rfl ?_ (fun _ => rfl) (by simp) rfl rfl ?_
  · simp
  refine regI_upto 2 (r := ?_) ?_ ?_ ?_
  rotate_left
  · simp [List.range, List.range.loop]; rfl
  · simp
  refine regI_call (clone_con m hm) rfl rfl rfl rfl rfl ?_ (fun _ => rfl) (by simp) rfl rfl ?_
  · simp
  refine regI_upto 2 (r := ?_) ?_ ?_ ?_
  rotate_left
  · simp [List.range, List.range.loop]; rfl
  · simp
  refine regI_call (clone_con e he) rfl rfl rfl rfl rfl ?_ (fun _ => rfl) (by simp) rfl rfl ?_
  · simp
  refine regI_upto 1 (r := ?_) ?_ ?_ ?_
  rotate_left
  · simp [List.range, List.range.loop]; rfl
  · simp
  refine regI_bar (r := ?_) tt_ok rfl rfl rfl rfl ?_ ?_ ?_
  rotate_left
  · simp; rfl
  · simp
  refine regI_nil ?_
  refine Wp.ret (endQ_ret0 rfl ?_)
  exact .aggs (.cons (.refl _ rfl) (.cons (.refl _ rfl) (.cons (.refl _ rfl) .nil)))
end Go.Proofs.Ytgbgmijighbfbaa
