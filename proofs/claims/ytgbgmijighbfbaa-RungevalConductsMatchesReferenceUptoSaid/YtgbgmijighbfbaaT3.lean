/- Contracts of functions of packages image, state and rungeval. -/
import Derived.Test.YtgbgmijighbfbaaT2
set_option linter.unusedSimpArgs false
set_option linter.unusedVariables false
namespace Go.Proofs.Ytgbgmijighbfbaa
open Go.Av
attribute [local simp] runf guardA opf St.ev Go.Av.look St.setd constAV constAV0 opBin opLen intBin St.need lookT TT0 tab resA resOne resAll blt_dec ble_dec beq_dec isPure
attribute [local simp] opMakeSlice opCopy opIndexAddr opLoad opStore St.mem St.rows opUn calleeA toArgs toArg toArg0 toArgs0 shift shift0 shift1 splice cellsOf isFree ofCells TS.isAgg isCell
attribute [local simp] aBools aState opBuildSlice fillA opAppend St.newBox runI valKind withinB readsHp refsD refs noSl opFieldAddr opBuild placeOf Op.operands Call.operands opIndex opExtract opSlice opField partA
attribute [local congr] bind_congr1 map_congr1 cond_congr1
set_option linter.unusedSimpArgs false

theorem get_con (l : List Bool) (i : Int) : Con Try.prog 41 [aBools l, .int .i64 i]
    (bif decide (0 ≤ i) && decide (i < l.length) then .tup [.bool (l.getD i.toNat false), .int .i64 0] else .tup [.bool false, .int .i64 3]) [] := by
  have his := is_con l i
  cases hb : (decide (0 ≤ i) && decide (i < l.length))
  · rw [hb] at his
    refine con_of (T := TT0) tt_ok Try.func41 (c := _) (by unfold Try.f41; rfl) Try.ntmps41 (rs := [.tmp 4, .tmp 5]) (by rw [Try.results41]) (by unfold Try.f41; rfl) (by simp) ?_
    simp only [argsCh, aBools]
    refine Wp.reg_seq (own := fun _ => false) tt_ok ?_
    iterate 2
      refine regv_pure (s1 := ?_) rfl rfl ?_ ?_ ?_
      rotate_left
      · simp; rfl
      · first | (simp; done) | (simp; omega) | (simp [rowsOf]; omega) | skip
    refine regv_nil ?_
    refine Wp.seq ?_
    refine Wp.reg_seq (own := fun _ => false) tt_ok ?_
    iterate 2
      refine regv_pure (s1 := ?_) rfl rfl ?_ ?_ ?_
      rotate_left
      · simp; rfl
      · first | (simp; done) | (simp; omega) | (simp [rowsOf]; omega) | skip
    refine regv_call (s' := ?_) (his) rfl rfl rfl rfl rfl ?_ ?_ ?_ ?_
    rotate_left 1
    · first | (simp; done) | (simp; omega) | (simp [rowsOf]; omega) | skip
    · simp
    · simp; rfl
    iterate 1
      refine regv_pure (s1 := ?_) rfl rfl ?_ ?_ ?_
      rotate_left
      · simp; rfl
      · first | (simp; done) | (simp; omega) | (simp [rowsOf]; omega) | skip
    refine regv_nil ?_
    refine Wp.cond true rfl (fun _ => ?_) (fun h => by cases h)
    refine Wp.reg_seq (own := fun _ => false) tt_ok ?_
    iterate 2
      refine regv_pure (s1 := ?_) rfl rfl ?_ ?_ ?_
      rotate_left
      · simp; rfl
      · first | (simp; done) | (simp; omega) | (simp [rowsOf]; omega) | skip
    refine regv_nil ?_
    refine Wp.ret (endQ_ret0 rfl ?_)
    exact .tups (.cons (.refl _ rfl) (.cons (.refl _ rfl) .nil))
  · rw [hb] at his
    simp at hb
    refine con_of (T := TT0) tt_ok Try.func41 (c := _) (by unfold Try.f41; rfl) Try.ntmps41 (rs := [.tmp 4, .tmp 5]) (by rw [Try.results41]) (by unfold Try.f41; rfl) (by simp) ?_
    simp only [argsCh, aBools]
    refine Wp.reg_seq (own := fun _ => false) tt_ok ?_
    iterate 2
      refine regv_pure (s1 := ?_) rfl rfl ?_ ?_ ?_
      rotate_left
      · simp [hb]; rfl
      · first | (simp [hb]; done) | (simp [hb]; omega) | (simp [hb, rowsOf]; omega) | skip
    refine regv_nil ?_
    refine Wp.seq ?_
    refine Wp.reg_seq (own := fun _ => false) tt_ok ?_
    iterate 2
      refine regv_pure (s1 := ?_) rfl rfl ?_ ?_ ?_
      rotate_left
      · simp [hb]; rfl
      · first | (simp [hb]; done) | (simp [hb]; omega) | (simp [hb, rowsOf]; omega) | skip
    refine regv_call (s' := ?_) (his) rfl rfl rfl rfl rfl ?_ ?_ ?_ ?_
    rotate_left 1
    · first | (simp [hb]; done) | (simp [hb]; omega) | (simp [hb, rowsOf]; omega) | skip
    · simp
    · simp [hb]; rfl
    iterate 1
      refine regv_pure (s1 := ?_) rfl rfl ?_ ?_ ?_
      rotate_left
      · simp [hb]; rfl
      · first | (simp [hb]; done) | (simp [hb]; omega) | (simp [hb, rowsOf]; omega) | skip
    refine regv_nil ?_
    refine Wp.cond false rfl (fun h => by cases h) (fun _ => ?_)
    refine Wp.skip ?_
    show Wp _ _ _ _
    refine Wp.reg_seq (own := fun _ => false) tt_ok ?_
    iterate 6
      refine regv_pure (s1 := ?_) rfl rfl ?_ ?_ ?_
      rotate_left
      · simp [hb]; rfl
      · first | (simp [hb]; done) | (simp [hb]; omega) | (simp [hb, rowsOf]; omega) | skip
    refine regv_nil ?_
    refine Wp.ret (endQ_ret0 rfl ?_)
    exact .tups (.cons (.eq (by simp [hb]) rfl) (.cons (.refl _ rfl) .nil))

theorem writes_con (k : Int) (on : Bool) (h0 : 0 ≤ k) (h4 : k < 4) : Con Try.prog 30 [.int .i64 k, .bool on]
    (.tup [.bool (if k = 0 then on else if k = 1 then !on else decide (k = 2)), .bool (if k < 2 then true else on)]) [] := by
  have hk : k = 0 ∨ k = 1 ∨ k = 2 ∨ k = 3 := by omega
  rcases hk with rfl | rfl | rfl | rfl
  ·
    refine con_of (T := TT0) tt_ok Try.func30 (c := _) (by unfold Try.f30; rfl) Try.ntmps30 (rs := [.tmp 4, .tmp 5]) (by rw [Try.results30]) (by unfold Try.f30; rfl) (by simp) ?_
    simp only [argsCh]
    refine Wp.reg_seq (own := fun _ => false) tt_ok ?_
    iterate 2
      refine regv_pure (s1 := ?_) rfl rfl ?_ ?_ ?_
      rotate_left
      · simp; rfl
      · first | (simp; done) | (simp; omega) | (simp [rowsOf]; omega) | skip
    refine regv_nil ?_
    refine Wp.reg_seq (own := fun _ => false) tt_ok ?_
    iterate 14
      refine regv_pure (s1 := ?_) rfl rfl ?_ ?_ ?_
      rotate_left
      · simp; rfl
      · first | (simp; done) | (simp; omega) | (simp [rowsOf]; omega) | skip
    refine regv_nil ?_
    refine Wp.drawn (own := fun _ => false) tt_ok mixed [0] (by decide +kernel) trivial ?_
    refine regI_upto 6 (r := ?_) ?_ ?_ ?_
    rotate_left
    · simp [List.range, List.range.loop]; rfl
    · first | (simp; done) | (simp; omega) | (simp [rowsOf]; omega) | skip
    refine regI_nil ?_
    refine Wp.ret (endQ_ret0 rfl ?_)
    exact .tups (.cons (.refl _ rfl) (.cons (.refl _ rfl) .nil))
  ·
    refine con_of (T := TT0) tt_ok Try.func30 (c := _) (by unfold Try.f30; rfl) Try.ntmps30 (rs := [.tmp 4, .tmp 5]) (by rw [Try.results30]) (by unfold Try.f30; rfl) (by simp) ?_
    simp only [argsCh]
    refine Wp.reg_seq (own := fun _ => false) tt_ok ?_
    iterate 2
      refine regv_pure (s1 := ?_) rfl rfl ?_ ?_ ?_
      rotate_left
      · simp; rfl
      · first | (simp; done) | (simp; omega) | (simp [rowsOf]; omega) | skip
    refine regv_nil ?_
    refine Wp.reg_seq (own := fun _ => false) tt_ok ?_
    iterate 14
      refine regv_pure (s1 := ?_) rfl rfl ?_ ?_ ?_
      rotate_left
      · simp; rfl
      · first | (simp; done) | (simp; omega) | (simp [rowsOf]; omega) | skip
    refine regv_nil ?_
    refine Wp.drawn (own := fun _ => false) tt_ok mixed [0] (by decide +kernel) trivial ?_
    refine regI_upto 6 (r := ?_) ?_ ?_ ?_
    rotate_left
    · simp [List.range, List.range.loop]; rfl
    · first | (simp; done) | (simp; omega) | (simp [rowsOf]; omega) | skip
    refine regI_nil ?_
    refine Wp.ret (endQ_ret0 rfl ?_)
    exact .tups (.cons (.refl _ rfl) (.cons (.refl _ rfl) .nil))
  ·
    refine con_of (T := TT0) tt_ok Try.func30 (c := _) (by unfold Try.f30; rfl) Try.ntmps30 (rs := [.tmp 4, .tmp 5]) (by rw [Try.results30]) (by unfold Try.f30; rfl) (by simp) ?_
    simp only [argsCh]
    refine Wp.reg_seq (own := fun _ => false) tt_ok ?_
    iterate 2
      refine regv_pure (s1 := ?_) rfl rfl ?_ ?_ ?_
      rotate_left
      · simp; rfl
      · first | (simp; done) | (simp; omega) | (simp [rowsOf]; omega) | skip
    refine regv_nil ?_
    refine Wp.reg_seq (own := fun _ => false) tt_ok ?_
    iterate 14
      refine regv_pure (s1 := ?_) rfl rfl ?_ ?_ ?_
      rotate_left
      · simp; rfl
      · first | (simp; done) | (simp; omega) | (simp [rowsOf]; omega) | skip
    refine regv_nil ?_
    refine Wp.drawn (own := fun _ => false) tt_ok mixed [0] (by decide +kernel) trivial ?_
    refine regI_upto 6 (r := ?_) ?_ ?_ ?_
    rotate_left
    · simp [List.range, List.range.loop]; rfl
    · first | (simp; done) | (simp; omega) | (simp [rowsOf]; omega) | skip
    refine regI_nil ?_
    refine Wp.ret (endQ_ret0 rfl ?_)
    exact .tups (.cons (.refl _ rfl) (.cons (.refl _ rfl) .nil))
  ·
    refine con_of (T := TT0) tt_ok Try.func30 (c := _) (by unfold Try.f30; rfl) Try.ntmps30 (rs := [.tmp 4, .tmp 5]) (by rw [Try.results30]) (by unfold Try.f30; rfl) (by simp) ?_
    simp only [argsCh]
    refine Wp.reg_seq (own := fun _ => false) tt_ok ?_
    iterate 2
      refine regv_pure (s1 := ?_) rfl rfl ?_ ?_ ?_
      rotate_left
      · simp; rfl
      · first | (simp; done) | (simp; omega) | (simp [rowsOf]; omega) | skip
    refine regv_nil ?_
    refine Wp.reg_seq (own := fun _ => false) tt_ok ?_
    iterate 14
      refine regv_pure (s1 := ?_) rfl rfl ?_ ?_ ?_
      rotate_left
      · simp; rfl
      · first | (simp; done) | (simp; omega) | (simp [rowsOf]; omega) | skip
    refine regv_nil ?_
    refine Wp.drawn (own := fun _ => false) tt_ok mixed [0] (by decide +kernel) trivial ?_
    refine regI_upto 6 (r := ?_) ?_ ?_ ?_
    rotate_left
    · simp [List.range, List.range.loop]; rfl
    · first | (simp; done) | (simp; omega) | (simp [rowsOf]; omega) | skip
    refine regI_nil ?_
    refine Wp.ret (endQ_ret0 rfl ?_)
    exact .tups (.cons (.refl _ rfl) (.cons (.refl _ rfl) .nil))

end Go.Proofs.Ytgbgmijighbfbaa
