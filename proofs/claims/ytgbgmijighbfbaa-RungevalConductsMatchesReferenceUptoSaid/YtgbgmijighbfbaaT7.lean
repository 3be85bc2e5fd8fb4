/- The contract of Contacts. -/
import Derived.Test.YtgbgmijighbfbaaT6
set_option linter.unusedSimpArgs false
set_option linter.unusedVariables false
namespace Go.Proofs.Ytgbgmijighbfbaa
open Go.Av
attribute [local simp] runf guardA opf St.ev Go.Av.look St.setd constAV constAV0 opBin opLen intBin St.need lookT TT0 tab resA resOne resAll blt_dec ble_dec beq_dec isPure
attribute [local simp] opMakeSlice opCopy opIndexAddr opLoad opStore St.mem St.rows opUn calleeA toArgs toArg toArg0 toArgs0 shift shift0 shift1 splice cellsOf isFree ofCells TS.isAgg isCell
attribute [local simp] aBools aState opBuildSlice fillA opAppend St.newBox runI valKind withinB readsHp refsD refs noSl opFieldAddr opBuild placeOf Op.operands Call.operands opIndex opExtract opSlice opField partA
attribute [local congr] bind_congr1 map_congr1 cond_congr1
attribute [local simp] aAddr
set_option linter.unusedSimpArgs false

def rowB (l : List Bool) : Nat → List AV := fun i => [.bool (l.getD i false)]

theorem clone_own (l : List Bool) (hl : l.length ≤ 1000000) : Con Try.prog 39 [aBools l] (.sl 0 0 l.length) [.arr 1 l.length (rowB l)] := by
  refine con_of (T := TT0) tt_ok Try.func39 (c := _) (by unfold Try.f39; rfl) Try.ntmps39 (rs := [.tmp 2]) (by rw [Try.results39]) (by unfold Try.f39; rfl) (by simp) ?_
  simp only [argsCh, aBools]
  refine Wp.run (own := fun _ => false) tt_ok (r := ?_) ?_ ?_ ?_
  rotate_left
  · simp; rfl
  · simp
  refine Wp.seq (Wp.reg_seq (own := fun _ => false) tt_ok ?_)
  refine regv_upto 1 (r := ?_) ?_ ?_ ?_
  rotate_left
  · simp; rfl
  · simp
  refine regv_isnil rfl (.inl rfl) rfl rfl rfl rfl rfl fun b hb => ⟨_, rfl, ?_⟩
  show Wp _ _ _ _
  refine Wp.cond b rfl (fun h => ?_) (fun h => ?_)
  · refine Wp.run (own := fun _ => false) tt_ok (r := ?_) ?_ ?_ ?_
    rotate_left
    · simp; rfl
    · simp
    rw [hb h]
    exact Wp.ret (endQ_ret [none] rfl (relocH_of rfl (by decide) ⟨ObjLe.ghost' rfl (by decide), trivial⟩) (.ghost _ rfl))
  · refine Wp.skip ?_
    show Wp _ _ _ _
    refine Wp.run (own := fun d => Nat.beq d 7) tt_ok (r := ?_) ?_ ?_ ?_
    rotate_left
    · simp; rfl
    · simp; omega
    exact Wp.ret (endQ_ret [some 0] rfl (relocH_of rfl (by decide) ⟨ObjLe.arr' rfl rfl (Nat.le_refl _) (fun _ _ => rfl), trivial⟩) (.sl _ _ _ _ rfl))

theorem sclone_own (q m e : List Bool) (hq : q.length ≤ 1000000) (hm : m.length ≤ 1000000) (he : e.length ≤ 1000000) :
    Con Try.prog 29 [aState q m e] (.agg [aBools q, aBools m, .sl 0 0 e.length]) [.arr 1 e.length (rowB e)] := by
  refine con_of (T := TT0) tt_ok Try.func29 (c := _) (by unfold Try.f29; rfl) Try.ntmps29 (rs := [.cell 2 36]) (by rw [Try.results29]) (by unfold Try.f29; rfl) (by simp) ?_
  simp only [argsCh, aState, aBools]
  refine Wp.run (own := fun _ => false) tt_ok (r := ?_) ?_ ?_ ?_
  rotate_left
  · simp; rfl
  · simp
  refine Wp.drawn (own := fun d => Nat.beq d 11) tt_ok mixed [0] (by decide +kernel) trivial ?_
  refine regI_upto 2 (r := ?_) ?_ ?_ ?_
  rotate_left
  · simp [List.range, List.range.loop]; rfl
  · simp
  refine regI_call (clone_con q hq) rfl rfl rfl rfl rfl ?_ (fun _ => rfl) (by simp) rfl rfl ?_
  · simp
  refine regI_upto 2 (r := ?_) ?_ ?_ ?_
  rotate_left
  · simp [List.range, List.range.loop]; rfl
  · simp
  refine regI_call (clone_con m hm) rfl rfl rfl rfl rfl ?_ (fun _ => rfl) (by simp) rfl rfl ?_
  · simp
  refine regI_upto 2 (r := ?_) ?_ ?_ ?_
  rotate_left
  · simp [List.range, List.range.loop]; rfl
  · simp
  refine regI_ecall (s1 := ?_) (clone_own e he) rfl rfl rfl rfl rfl ?_ (by simp) (by simp) ?_ ?_
  rotate_left
  · simp
  · simp; rfl
  refine regI_upto 1 (r := ?_) ?_ ?_ ?_
  rotate_left
  · simp [List.range, List.range.loop]; rfl
  · simp
  refine regI_bar (r := ?_) tt_ok rfl rfl rfl rfl ?_ ?_ ?_
  rotate_left
  · simp; rfl
  · simp
  refine regI_nil ?_
  exact Wp.ret (endQ_ret [some 2] rfl (relocH_of rfl (by decide) ⟨ObjLe.arr' rfl rfl (Nat.le_refl _) (fun _ _ => rfl), trivial⟩)
    (.aggs (.cons (.refl _ rfl) (.cons (.refl _ rfl) (.cons (.sl _ _ _ _ rfl) .nil)))))

end Go.Proofs.Ytgbgmijighbfbaa
