/- Contracts of functions of package image. -/
import Derived.Test.YtgbgmijighbfbaaTab
set_option linter.unusedSimpArgs false
set_option linter.unusedVariables false
namespace Go.Proofs.Ytgbgmijighbfbaa
open Go.Av
attribute [local simp] runf guardA opf St.ev Go.Av.look St.setd constAV constAV0 opBin opLen intBin St.need lookT TT0 tab resA resOne resAll blt_dec ble_dec beq_dec isPure
attribute [local simp] opMakeSlice opCopy opIndexAddr opLoad opStore St.mem St.rows opUn calleeA toArgs toArg toArg0 shift shift0 shift1 splice cellsOf isFree ofCells TS.isAgg isCell

def aBools (l : List Bool) : AV := .list l.length fun i => [.bool (l.getD i false)]

theorem is_con (l : List Bool) (i : Int) : Con Try.prog 42 [aBools l, .int .i64 i] (.bool (decide (0 ≤ i) && decide (i < l.length))) [] := by
  refine con_of (T := TT0) tt_ok Try.func42 (c := _) (by unfold Try.f42; rfl) Try.ntmps42 (rs := [.tmp 4]) (by rw [Try.results42]) (by unfold Try.f42; rfl) (by simp) ?_
  simp only [argsCh, aBools]
  refine Wp.run (own := fun _ => false) tt_ok (r := ?_) ?_ ?_ ?_
  rotate_left
  · simp; rfl
  · simp
  by_cases h : 0 ≤ i
  · refine Wp.run (own := fun _ => false) tt_ok (r := ?_) ?_ ?_ ?_
    rotate_left
    · simp [h]; rfl
    · simp
    refine Wp.ret (endQ_ret0 rfl ?_)
    simp [h]; exact .refl _ rfl
  · refine Wp.run (own := fun _ => false) tt_ok (r := ?_) ?_ ?_ ?_
    rotate_left
    · simp [h]; rfl
    · simp
    refine Wp.ret (endQ_ret0 rfl ?_)
    simp [h]; exact .refl _ rfl

theorem set_con (l : List Bool) (i : Int) (v : Bool) (hl : l.length < 2 ^ 40) : Con Try.prog 40 [aBools l, .int .i64 i, .bool v]
    (bif decide (0 ≤ i) && decide (i < l.length) then .tup [aBools (l.set i.toNat v), .int .i64 0] else .tup [.nilsl, .int .i64 3]) [] := by
  have his := is_con l i
  refine con_of (T := TT0) tt_ok Try.func40 (c := _) (by unfold Try.f40; rfl) Try.ntmps40 (rs := [.tmp 6, .tmp 7]) (by rw [Try.results40]) (by unfold Try.f40; rfl) (by simp) ?_
  simp only [argsCh, aBools]
  refine Wp.run (own := fun _ => false) tt_ok (r := ?_) ?_ ?_ ?_
  rotate_left
  · simp; rfl
  · simp
  refine Wp.seq (Wp.reg_seq (own := fun _ => false) tt_ok ?_)
  refine regv_upto 2 (r := ?_) ?_ ?_ ?_
  rotate_left
  · simp; rfl
  · simp
  cases hb : (decide (0 ≤ i) && decide (i < l.length))
  · rw [hb] at his
    refine regv_call (s' := ?_) his rfl rfl rfl rfl rfl ?_ ?_ ?_ ?_
    rotate_left 1
    · simp
    · simp
    · simp; rfl
    refine regv_upto 1 (r := ?_) ?_ ?_ ?_
    rotate_left
    · simp; rfl
    · simp
    show Wp _ _ _ _
    refine Wp.cond true rfl (fun _ => ?_) (fun h => by cases h)
    refine Wp.run (own := fun _ => false) tt_ok (r := ?_) ?_ ?_ ?_
    rotate_left
    · simp; rfl
    · simp
    refine Wp.ret (endQ_ret0 rfl ?_)
    exact .tups (.cons (.refl _ rfl) (.cons (.refl _ rfl) .nil))
  · rw [hb] at his
    simp at hb
    refine regv_call (s' := ?_) his rfl rfl rfl rfl rfl ?_ ?_ ?_ ?_
    rotate_left 1
    · simp
    · simp
    · simp; rfl
    refine regv_upto 1 (r := ?_) ?_ ?_ ?_
    rotate_left
    · simp; rfl
    · simp
    show Wp _ _ _ _
    refine Wp.cond false rfl (fun h => by cases h) (fun _ => ?_)
    refine Wp.skip ?_
    show Wp _ _ _ _
    refine Wp.run (own := fun _ => false) tt_ok (r := ?_) ?_ ?_ ?_
    rotate_left
    · simp; rfl
    · simp; omega
    refine Wp.run (own := fun _ => false) tt_ok (r := ?_) ?_ ?_ ?_
    rotate_left
    · simp; rfl
    · simp
    refine Wp.run (own := fun _ => false) tt_ok (r := ?_) ?_ ?_ ?_
    rotate_left
    · simp; rfl
    · simp; omega
    refine Wp.run (own := fun _ => false) tt_ok (r := ?_) ?_ ?_ ?_
    rotate_left
    · simp; rfl
    · simp
    refine Wp.ret (endQ_ret0 rfl ?_)
    refine .tups (.cons (.frz' rfl rfl rfl (by simp) ?_ ?_) (.cons (.refl _ rfl) .nil))
    · simp
    · intro k hk
      simp [copyRow]
      by_cases h : k = i.toNat
      · subst h; simp [hk]
      · simp [h, hk]; rw [List.getElem_set_ne (Ne.symm h)]
end Go.Proofs.Ytgbgmijighbfbaa
