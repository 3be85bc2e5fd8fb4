/- The contract of alive. -/
import Derived.Test.YtgbgmijighbfbaaT9
import Derived.Test.YtgbgmijighbfbaaAv23
set_option linter.unusedSimpArgs false
set_option linter.unusedVariables false
namespace Go.Proofs.Ytgbgmijighbfbaa
open Go.Av
attribute [local simp] runf guardA opf St.ev Go.Av.look St.setd constAV constAV0 opBin opLen intBin St.need lookT TT0 tab resA resOne resAll blt_dec ble_dec beq_dec isPure
attribute [local simp] opMakeSlice opCopy opIndexAddr opLoad opStore St.mem St.rows opUn calleeA toArgs toArg toArg0 toArgs0 shift shift0 shift1 splice cellsOf isFree ofCells TS.isAgg isCell
attribute [local simp] aBools aState opBuildSlice fillA opAppend St.newBox runI valKind withinB readsHp refsD refs noSl opFieldAddr opBuild placeOf Op.operands Call.operands opIndex opExtract opSlice opField partA
attribute [local congr] bind_congr1 map_congr1 cond_congr1
attribute [local simp] aAddr aSta rowsOf
set_option maxHeartbeats 4000000
set_option linter.unusedSimpArgs false

def ctA : Ct := ⟨2, 0, 0, strL, strR⟩
def coA : Co := ⟨0, 1, 0⟩

theorem reachA : reachB [ctA] [true] = true := by
  have : Reach [ctA] [true] strR := .step 0 ctA rfl rfl .left
  unfold reachB; simp [this]

theorem reachA0 : reachB [ctA] [false] = false := by
  have key : ∀ x, Reach [ctA] [false] x → x = strL := by
    intro x hx
    induction hx with
    | left => rfl
    | step i c h1 h2 _ _ => cases i with | zero => simp at h2 | succ i => simp at h2
  have : ¬ Reach [ctA] [false] strR := fun hr => by
    have := congrArg ByteArray.data (key _ hr)
    simp [strL, strR] at this
  unfold reachB; simp [this]

theorem scanA1 : scanS [true] [ctA] [coA] 0 ([false], [], [false]) = (([true], [], [true]), true, 0) := by
  have h : contactsS [true] [false] [] [ctA] 0 0 [false] (List.replicate [ctA].length false) = (([true], [true]), 0) := by rfl
  unfold scanS
  simp only [h, reachA]
  rfl

theorem scanA2 : scanS [true] [ctA] [coA] 0 ([true], [], [true]) = (([false], [], [true]), false, 0) := by
  have h : contactsS [true] [true] [] [ctA] 0 0 [true] (List.replicate [ctA].length false) = (([false], [true]), 0) := by rfl
  unfold scanS
  simp only [h, reachA0]
  rfl

theorem scanA1_con : Con Try.prog 16 [aRung ⟨#[]⟩ [ctA] [coA] ⟨#[]⟩, aBools [true], aState [false] [] [false], .int .i64 0] (.tup [aState [true] [] [true], .bool true, .int .i64 0]) [] := by
  have := scan_con ⟨#[]⟩ ⟨#[]⟩ [ctA] [coA] [true] [false] [] [false] 0 (by decide) (by decide) (by decide) (by decide) (by decide) (by decide)
  rw [scanA1] at this; exact this

theorem scanA2_con : Con Try.prog 16 [aRung ⟨#[]⟩ [ctA] [coA] ⟨#[]⟩, aBools [true], aState [true] [] [true], .int .i64 0] (.tup [aState [false] [] [true], .bool false, .int .i64 0]) [] := by
  have := scan_con ⟨#[]⟩ ⟨#[]⟩ [ctA] [coA] [true] [true] [] [true] 0 (by decide) (by decide) (by decide) (by decide) (by decide) (by decide)
  rw [scanA2] at this; exact this

theorem one_row {row row' : Nat → List AV} (h : row 0 = row' 0) : ∀ i, i < 1 → row i = row' i := fun i hi => by
  have : i = 0 := by omega
  subst this; exact h

theorem alive_con : Con Try.prog 11 [] (.bool true) [] := by
  refine con_of (T := TT0) tt_ok Try.func11 (c := _) (by unfold Try.f11; rfl) Try.ntmps11 (rs := [.tmp 0]) (by rw [Try.results11]) (by unfold Try.f11; rfl) (by simp) ?_
  simp only [argsCh]
  refine Wp.reg_seq (own := fun _ => false) tt_ok ?_
  iterate 1
    refine regv_pure (s1 := ?_) rfl rfl ?_ ?_ ?_
    rotate_left
    · simp; rfl
    · first | (simp; done) | (simp; omega) | (simp [rowsOf]; omega) | skip
  refine regv_nil ?_
  refine Wp.reg_seq (own := fun _ => false) tt_ok ?_
  iterate 8
    refine regv_pure (s1 := ?_) rfl rfl ?_ ?_ ?_
    rotate_left
    · simp; rfl
    · first | (simp; done) | (simp; omega) | (simp [rowsOf]; omega) | skip
  refine regv_nil ?_
  refine Wp.reg_seq (own := fun _ => false) tt_ok ?_
  iterate 5
    refine regv_pure (s1 := ?_) rfl rfl ?_ ?_ ?_
    rotate_left
    · simp; rfl
    · first | (simp; done) | (simp; omega) | (simp [rowsOf]; omega) | skip
  refine regv_call (s' := ?_) (.args scanA1_con (.cons (.aggs (.cons (.refl _ rfl) (.cons (.list' rfl (one_row rfl)) (.cons (.list' rfl (one_row rfl)) (.cons (.refl _ rfl) .nil))))) (.cons (.list' rfl (one_row rfl)) (.cons (.aggs (.cons (.list' rfl (one_row rfl)) (.cons (.list' rfl (fun i hi => absurd hi (Nat.not_lt_zero i))) (.cons (.list' rfl (one_row rfl)) .nil)))) (.cons (.refl _ rfl) .nil))))) rfl rfl rfl rfl rfl ?_ ?_ ?_ ?_
  rotate_left 1
  · first | (simp; done) | (simp; omega) | (simp [rowsOf]; omega) | skip
  · simp
  · simp; rfl
  iterate 8
    refine regv_pure (s1 := ?_) rfl rfl ?_ ?_ ?_
    rotate_left
    · simp; rfl
    · first | (simp; done) | (simp; omega) | (simp [rowsOf]; omega) | skip
  refine regv_nil ?_
  refine Wp.reg_seq (own := fun _ => false) tt_ok ?_
  iterate 3
    refine regv_pure (s1 := ?_) rfl rfl ?_ ?_ ?_
    rotate_left
    · simp; rfl
    · first | (simp; done) | (simp; omega) | (simp [rowsOf]; omega) | skip
  refine regv_call (s' := ?_) (.args scanA2_con (.cons (.aggs (.cons (.refl _ rfl) (.cons (.list' rfl (one_row rfl)) (.cons (.list' rfl (one_row rfl)) (.cons (.refl _ rfl) .nil))))) (.cons (.list' rfl (one_row rfl)) (.cons (.aggs (.cons (.refl _ rfl) (.cons (.refl _ rfl) (.cons (.refl _ rfl) .nil)))) (.cons (.refl _ rfl) .nil))))) rfl rfl rfl rfl rfl ?_ ?_ ?_ ?_
  rotate_left 1
  · first | (simp; done) | (simp; omega) | (simp [rowsOf]; omega) | skip
  · simp
  · simp; rfl
  iterate 8
    refine regv_pure (s1 := ?_) rfl rfl ?_ ?_ ?_
    rotate_left
    · simp; rfl
    · first | (simp; done) | (simp; omega) | (simp [rowsOf]; omega) | skip
  refine regv_nil ?_
  refine Wp.reg_seq (own := fun _ => false) tt_ok ?_
  iterate 3
    refine regv_pure (s1 := ?_) rfl rfl ?_ ?_ ?_
    rotate_left
    · simp; rfl
    · first | (simp; done) | (simp; omega) | (simp [rowsOf]; omega) | skip
  first
    | (refine regv_pure (s1 := ?_) rfl ?_ ?_ ?_ ?_
       rotate_left
       · simp; done
       · simp; rfl
       · first | (simp; done) | (simp; omega) | (simp [rowsOf]; omega) | skip)
    | (refine regv_skip (s1 := ?_) ?_ ?_ ?_
       rotate_left
       · simp; done
       · simp; rfl)
  iterate 2
    refine regv_pure (s1 := ?_) rfl rfl ?_ ?_ ?_
    rotate_left
    · simp; rfl
    · first | (simp; done) | (simp; omega) | (simp [rowsOf]; omega) | skip
  first
    | (refine regv_pure (s1 := ?_) rfl ?_ ?_ ?_ ?_
       rotate_left
       · simp; done
       · simp; rfl
       · first | (simp; done) | (simp; omega) | (simp [rowsOf]; omega) | skip)
    | (refine regv_skip (s1 := ?_) ?_ ?_ ?_
       rotate_left
       · simp; done
       · simp; rfl)
  first
    | (refine regv_pure (s1 := ?_) rfl ?_ ?_ ?_ ?_
       rotate_left
       · simp; done
       · simp; rfl
       · first | (simp; done) | (simp; omega) | (simp [rowsOf]; omega) | skip)
    | (refine regv_skip (s1 := ?_) ?_ ?_ ?_
       rotate_left
       · simp; done
       · simp; rfl)
  first
    | (refine regv_pure (s1 := ?_) rfl ?_ ?_ ?_ ?_
       rotate_left
       · simp; done
       · simp; rfl
       · first | (simp; done) | (simp; omega) | (simp [rowsOf]; omega) | skip)
    | (refine regv_skip (s1 := ?_) ?_ ?_ ?_
       rotate_left
       · simp; done
       · simp; rfl)
  first
    | (refine regv_pure (s1 := ?_) rfl ?_ ?_ ?_ ?_
       rotate_left
       · simp; done
       · simp; rfl
       · first | (simp; done) | (simp; omega) | (simp [rowsOf]; omega) | skip)
    | (refine regv_skip (s1 := ?_) ?_ ?_ ?_
       rotate_left
       · simp; done
       · simp; rfl)
  iterate 2
    refine regv_pure (s1 := ?_) rfl rfl ?_ ?_ ?_
    rotate_left
    · simp; rfl
    · first | (simp; done) | (simp; omega) | (simp [rowsOf]; omega) | skip
  first
    | (refine regv_pure (s1 := ?_) rfl ?_ ?_ ?_ ?_
       rotate_left
       · simp; done
       · simp; rfl
       · first | (simp; done) | (simp; omega) | (simp [rowsOf]; omega) | skip)
    | (refine regv_skip (s1 := ?_) ?_ ?_ ?_
       rotate_left
       · simp; done
       · simp; rfl)
  first
    | (refine regv_pure (s1 := ?_) rfl ?_ ?_ ?_ ?_
       rotate_left
       · simp; done
       · simp; rfl
       · first | (simp; done) | (simp; omega) | (simp [rowsOf]; omega) | skip)
    | (refine regv_skip (s1 := ?_) ?_ ?_ ?_
       rotate_left
       · simp; done
       · simp; rfl)
  first
    | (refine regv_pure (s1 := ?_) rfl ?_ ?_ ?_ ?_
       rotate_left
       · simp; done
       · simp; rfl
       · first | (simp; done) | (simp; omega) | (simp [rowsOf]; omega) | skip)
    | (refine regv_skip (s1 := ?_) ?_ ?_ ?_
       rotate_left
       · simp; done
       · simp; rfl)
  first
    | (refine regv_pure (s1 := ?_) rfl ?_ ?_ ?_ ?_
       rotate_left
       · simp; done
       · simp; rfl
       · first | (simp; done) | (simp; omega) | (simp [rowsOf]; omega) | skip)
    | (refine regv_skip (s1 := ?_) ?_ ?_ ?_
       rotate_left
       · simp; done
       · simp; rfl)
  iterate 2
    refine regv_pure (s1 := ?_) rfl rfl ?_ ?_ ?_
    rotate_left
    · simp; rfl
    · first | (simp; done) | (simp; omega) | (simp [rowsOf]; omega) | skip
  first
    | (refine regv_pure (s1 := ?_) rfl ?_ ?_ ?_ ?_
       rotate_left
       · simp; done
       · simp; rfl
       · first | (simp; done) | (simp; omega) | (simp [rowsOf]; omega) | skip)
    | (refine regv_skip (s1 := ?_) ?_ ?_ ?_
       rotate_left
       · simp; done
       · simp; rfl)
  first
    | (refine regv_pure (s1 := ?_) rfl ?_ ?_ ?_ ?_
       rotate_left
       · simp; done
       · simp; rfl
       · first | (simp; done) | (simp; omega) | (simp [rowsOf]; omega) | skip)
    | (refine regv_skip (s1 := ?_) ?_ ?_ ?_
       rotate_left
       · simp; done
       · simp; rfl)
  first
    | (refine regv_pure (s1 := ?_) rfl ?_ ?_ ?_ ?_
       rotate_left
       · simp; done
       · simp; rfl
       · first | (simp; done) | (simp; omega) | (simp [rowsOf]; omega) | skip)
    | (refine regv_skip (s1 := ?_) ?_ ?_ ?_
       rotate_left
       · simp; done
       · simp; rfl)
  first
    | (refine regv_pure (s1 := ?_) rfl ?_ ?_ ?_ ?_
       rotate_left
       · simp; done
       · simp; rfl
       · first | (simp; done) | (simp; omega) | (simp [rowsOf]; omega) | skip)
    | (refine regv_skip (s1 := ?_) ?_ ?_ ?_
       rotate_left
       · simp; done
       · simp; rfl)
  iterate 2
    refine regv_pure (s1 := ?_) rfl rfl ?_ ?_ ?_
    rotate_left
    · simp; rfl
    · first | (simp; done) | (simp; omega) | (simp [rowsOf]; omega) | skip
  first
    | (refine regv_pure (s1 := ?_) rfl ?_ ?_ ?_ ?_
       rotate_left
       · simp; done
       · simp; rfl
       · first | (simp; done) | (simp; omega) | (simp [rowsOf]; omega) | skip)
    | (refine regv_skip (s1 := ?_) ?_ ?_ ?_
       rotate_left
       · simp; done
       · simp; rfl)
  first
    | (refine regv_pure (s1 := ?_) rfl ?_ ?_ ?_ ?_
       rotate_left
       · simp; done
       · simp; rfl
       · first | (simp; done) | (simp; omega) | (simp [rowsOf]; omega) | skip)
    | (refine regv_skip (s1 := ?_) ?_ ?_ ?_
       rotate_left
       · simp; done
       · simp; rfl)
  first
    | (refine regv_pure (s1 := ?_) rfl ?_ ?_ ?_ ?_
       rotate_left
       · simp; done
       · simp; rfl
       · first | (simp; done) | (simp; omega) | (simp [rowsOf]; omega) | skip)
    | (refine regv_skip (s1 := ?_) ?_ ?_ ?_
       rotate_left
       · simp; done
       · simp; rfl)
  first
    | (refine regv_pure (s1 := ?_) rfl ?_ ?_ ?_ ?_
       rotate_left
       · simp; done
       · simp; rfl
       · first | (simp; done) | (simp; omega) | (simp [rowsOf]; omega) | skip)
    | (refine regv_skip (s1 := ?_) ?_ ?_ ?_
       rotate_left
       · simp; done
       · simp; rfl)
  iterate 2
    refine regv_pure (s1 := ?_) rfl rfl ?_ ?_ ?_
    rotate_left
    · simp; rfl
    · first | (simp; done) | (simp; omega) | (simp [rowsOf]; omega) | skip
  first
    | (refine regv_pure (s1 := ?_) rfl ?_ ?_ ?_ ?_
       rotate_left
       · simp; done
       · simp; rfl
       · first | (simp; done) | (simp; omega) | (simp [rowsOf]; omega) | skip)
    | (refine regv_skip (s1 := ?_) ?_ ?_ ?_
       rotate_left
       · simp; done
       · simp; rfl)
  first
    | (refine regv_pure (s1 := ?_) rfl ?_ ?_ ?_ ?_
       rotate_left
       · simp; done
       · simp; rfl
       · first | (simp; done) | (simp; omega) | (simp [rowsOf]; omega) | skip)
    | (refine regv_skip (s1 := ?_) ?_ ?_ ?_
       rotate_left
       · simp; done
       · simp; rfl)
  iterate 2
    refine regv_pure (s1 := ?_) rfl rfl ?_ ?_ ?_
    rotate_left
    · simp; rfl
    · first | (simp; done) | (simp; omega) | (simp [rowsOf]; omega) | skip
  first
    | (refine regv_pure (s1 := ?_) rfl ?_ ?_ ?_ ?_
       rotate_left
       · simp; done
       · simp; rfl
       · first | (simp; done) | (simp; omega) | (simp [rowsOf]; omega) | skip)
    | (refine regv_skip (s1 := ?_) ?_ ?_ ?_
       rotate_left
       · simp; done
       · simp; rfl)
  first
    | (refine regv_pure (s1 := ?_) rfl ?_ ?_ ?_ ?_
       rotate_left
       · simp; done
       · simp; rfl
       · first | (simp; done) | (simp; omega) | (simp [rowsOf]; omega) | skip)
    | (refine regv_skip (s1 := ?_) ?_ ?_ ?_
       rotate_left
       · simp; done
       · simp; rfl)
  iterate 2
    refine regv_pure (s1 := ?_) rfl rfl ?_ ?_ ?_
    rotate_left
    · simp; rfl
    · first | (simp; done) | (simp; omega) | (simp [rowsOf]; omega) | skip
  first
    | (refine regv_pure (s1 := ?_) rfl ?_ ?_ ?_ ?_
       rotate_left
       · simp; done
       · simp; rfl
       · first | (simp; done) | (simp; omega) | (simp [rowsOf]; omega) | skip)
    | (refine regv_skip (s1 := ?_) ?_ ?_ ?_
       rotate_left
       · simp; done
       · simp; rfl)
  first
    | (refine regv_pure (s1 := ?_) rfl ?_ ?_ ?_ ?_
       rotate_left
       · simp; done
       · simp; rfl
       · first | (simp; done) | (simp; omega) | (simp [rowsOf]; omega) | skip)
    | (refine regv_skip (s1 := ?_) ?_ ?_ ?_
       rotate_left
       · simp; done
       · simp; rfl)
  first
    | (refine regv_pure (s1 := ?_) rfl ?_ ?_ ?_ ?_
       rotate_left
       · simp; done
       · simp; rfl
       · first | (simp; done) | (simp; omega) | (simp [rowsOf]; omega) | skip)
    | (refine regv_skip (s1 := ?_) ?_ ?_ ?_
       rotate_left
       · simp; done
       · simp; rfl)
  first
    | (refine regv_pure (s1 := ?_) rfl ?_ ?_ ?_ ?_
       rotate_left
       · simp; done
       · simp; rfl
       · first | (simp; done) | (simp; omega) | (simp [rowsOf]; omega) | skip)
    | (refine regv_skip (s1 := ?_) ?_ ?_ ?_
       rotate_left
       · simp; done
       · simp; rfl)
  iterate 2
    refine regv_pure (s1 := ?_) rfl rfl ?_ ?_ ?_
    rotate_left
    · simp; rfl
    · first | (simp; done) | (simp; omega) | (simp [rowsOf]; omega) | skip
  first
    | (refine regv_pure (s1 := ?_) rfl ?_ ?_ ?_ ?_
       rotate_left
       · simp; done
       · simp; rfl
       · first | (simp; done) | (simp; omega) | (simp [rowsOf]; omega) | skip)
    | (refine regv_skip (s1 := ?_) ?_ ?_ ?_
       rotate_left
       · simp; done
       · simp; rfl)
  first
    | (refine regv_pure (s1 := ?_) rfl ?_ ?_ ?_ ?_
       rotate_left
       · simp; done
       · simp; rfl
       · first | (simp; done) | (simp; omega) | (simp [rowsOf]; omega) | skip)
    | (refine regv_skip (s1 := ?_) ?_ ?_ ?_
       rotate_left
       · simp; done
       · simp; rfl)
  first
    | (refine regv_pure (s1 := ?_) rfl ?_ ?_ ?_ ?_
       rotate_left
       · simp; done
       · simp; rfl
       · first | (simp; done) | (simp; omega) | (simp [rowsOf]; omega) | skip)
    | (refine regv_skip (s1 := ?_) ?_ ?_ ?_
       rotate_left
       · simp; done
       · simp; rfl)
  first
    | (refine regv_pure (s1 := ?_) rfl ?_ ?_ ?_ ?_
       rotate_left
       · simp; done
       · simp; rfl
       · first | (simp; done) | (simp; omega) | (simp [rowsOf]; omega) | skip)
    | (refine regv_skip (s1 := ?_) ?_ ?_ ?_
       rotate_left
       · simp; done
       · simp; rfl)
  first
    | (refine regv_pure (s1 := ?_) rfl ?_ ?_ ?_ ?_
       rotate_left
       · simp; done
       · simp; rfl
       · first | (simp; done) | (simp; omega) | (simp [rowsOf]; omega) | skip)
    | (refine regv_skip (s1 := ?_) ?_ ?_ ?_
       rotate_left
       · simp; done
       · simp; rfl)
  iterate 2
    refine regv_pure (s1 := ?_) rfl rfl ?_ ?_ ?_
    rotate_left
    · simp; rfl
    · first | (simp; done) | (simp; omega) | (simp [rowsOf]; omega) | skip
  refine regv_nil ?_
  refine Wp.ret (endQ_ret0 rfl ?_)
  exact .refl _ rfl

end Go.Proofs.Ytgbgmijighbfbaa
