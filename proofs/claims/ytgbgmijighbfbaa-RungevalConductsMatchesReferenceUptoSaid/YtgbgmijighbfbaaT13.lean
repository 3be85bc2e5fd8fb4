/- The law on Conducts, as a contract. -/
import Derived.Test.YtgbgmijighbfbaaT12
set_option linter.unusedSimpArgs false
set_option linter.unusedVariables false
namespace Go.Proofs.Ytgbgmijighbfbaa
open Go.Av
attribute [local simp] runf guardA opf St.ev Go.Av.look St.setd constAV constAV0 opBin opLen intBin St.need lookT TT0 tab resA resOne resAll blt_dec ble_dec beq_dec isPure
attribute [local simp] opMakeSlice opCopy opIndexAddr opLoad opStore St.mem St.rows opUn calleeA toArgs toArg toArg0 toArgs0 shift shift0 shift1 splice cellsOf isFree ofCells TS.isAgg isCell
attribute [local simp] aBools aState opBuildSlice fillA opAppend St.newBox runI valKind withinB readsHp refsD refs noSl opFieldAddr opBuild placeOf Op.operands Call.operands opIndex opExtract opSlice opField partA
attribute [local congr] bind_congr1 map_congr1 cond_congr1
attribute [local simp] aAddr aSta strBin
set_option maxHeartbeats 4000000
set_option linter.unusedSimpArgs false

theorem tooS_small {cs : List Ct} (h : ¬ 0 < tooS cs) : cs.length ≤ 60 := by
  unfold tooS at h
  split at h
  · omega
  · split at h
    · omega
    · omega

theorem law_conducts (lab j : ByteArray) (cs : List Ct) (os : List Co) (on : List Bool) (hcs : cs.length ≤ 4000000000) : Con Try.prog 3 [aRung lab cs os j, aBools on] (.bool true) [] := by
  have htl := toolarge_con lab j cs os hcs
  by_cases ht : 0 < tooS cs
  ·
    refine con_of (T := TT0) tt_ok Try.func3 (c := _) (by unfold Try.f3; rfl) Try.ntmps3 (rs := [.tmp 4]) (by rw [Try.results3]) (by unfold Try.f3; rfl) (by simp) ?_
    simp only [argsCh, aRung, aBools]
    refine Wp.reg_seq (own := fun _ => false) tt_ok ?_
    iterate 2
      refine regv_pure (s1 := ?_) rfl rfl ?_ ?_ ?_
      rotate_left
      · simp [aCts, aCos, ht]; rfl
      · first | (simp [aCts, aCos, ht]; done) | (simp [aCts, aCos, ht]; omega) | (simp [aCts, aCos, ht, rowsOf]; omega) | skip
    refine regv_nil ?_
    refine Wp.seq ?_
    refine Wp.reg_seq (own := fun _ => false) tt_ok ?_
    iterate 1
      refine regv_pure (s1 := ?_) rfl rfl ?_ ?_ ?_
      rotate_left
      · simp [aCts, aCos, ht]; rfl
      · first | (simp [aCts, aCos, ht]; done) | (simp [aCts, aCos, ht]; omega) | (simp [aCts, aCos, ht, rowsOf]; omega) | skip
    refine regv_call (s' := ?_) (htl) rfl rfl rfl rfl rfl ?_ ?_ ?_ ?_
    rotate_left 1
    · first | (simp [aCts, aCos, ht]; done) | (simp [aCts, aCos, ht]; omega) | (simp [aCts, aCos, ht, rowsOf]; omega) | skip
    · simp
    · simp [aCts, aCos, ht]; rfl
    iterate 2
      refine regv_pure (s1 := ?_) rfl rfl ?_ ?_ ?_
      rotate_left
      · simp [aCts, aCos, ht]; rfl
      · first | (simp [aCts, aCos, ht]; done) | (simp [aCts, aCos, ht]; omega) | (simp [aCts, aCos, ht, rowsOf]; omega) | skip
    first
      | (refine regv_pure (s1 := ?_) rfl ?_ ?_ ?_ ?_
         rotate_left
         · simp [aCts, aCos, ht]; done
         · simp [aCts, aCos, ht]; rfl
         · first | (simp [aCts, aCos, ht]; done) | (simp [aCts, aCos, ht]; omega) | (simp [aCts, aCos, ht, rowsOf]; omega) | skip)
      | (refine regv_skip (s1 := ?_) ?_ ?_ ?_
         rotate_left
         · simp [aCts, aCos, ht]; done
         · simp [aCts, aCos, ht]; rfl)
    first
      | (refine regv_pure (s1 := ?_) rfl ?_ ?_ ?_ ?_
         rotate_left
         · simp [aCts, aCos, ht]; done
         · simp [aCts, aCos, ht]; rfl
         · first | (simp [aCts, aCos, ht]; done) | (simp [aCts, aCos, ht]; omega) | (simp [aCts, aCos, ht, rowsOf]; omega) | skip)
      | (refine regv_skip (s1 := ?_) ?_ ?_ ?_
         rotate_left
         · simp [aCts, aCos, ht]; done
         · simp [aCts, aCos, ht]; rfl)
    first
      | (refine regv_pure (s1 := ?_) rfl ?_ ?_ ?_ ?_
         rotate_left
         · simp [aCts, aCos, ht]; done
         · simp [aCts, aCos, ht]; rfl
         · first | (simp [aCts, aCos, ht]; done) | (simp [aCts, aCos, ht]; omega) | (simp [aCts, aCos, ht, rowsOf]; omega) | skip)
      | (refine regv_skip (s1 := ?_) ?_ ?_ ?_
         rotate_left
         · simp [aCts, aCos, ht]; done
         · simp [aCts, aCos, ht]; rfl)
    iterate 1
      refine regv_pure (s1 := ?_) rfl rfl ?_ ?_ ?_
      rotate_left
      · simp [aCts, aCos, ht]; rfl
      · first | (simp [aCts, aCos, ht]; done) | (simp [aCts, aCos, ht]; omega) | (simp [aCts, aCos, ht, rowsOf]; omega) | skip
    refine regv_nil ?_
    refine Wp.cond true rfl (fun _ => ?_) (fun h => by cases h)
    refine Wp.reg_seq (own := fun _ => false) tt_ok ?_
    refine regv_call (s' := ?_) (alive_con) rfl rfl rfl rfl rfl ?_ ?_ ?_ ?_
    rotate_left 1
    · first | (simp [aCts, aCos, ht]; done) | (simp [aCts, aCos, ht]; omega) | (simp [aCts, aCos, ht, rowsOf]; omega) | skip
    · simp
    · simp [aCts, aCos, ht]; rfl
    iterate 1
      refine regv_pure (s1 := ?_) rfl rfl ?_ ?_ ?_
      rotate_left
      · simp [aCts, aCos, ht]; rfl
      · first | (simp [aCts, aCos, ht]; done) | (simp [aCts, aCos, ht]; omega) | (simp [aCts, aCos, ht, rowsOf]; omega) | skip
    refine regv_nil ?_
    refine Wp.ret (endQ_ret0 rfl ?_)
    exact .refl _ rfl
  · by_cases hn : (500 : Int) < on.length
    ·
      refine con_of (T := TT0) tt_ok Try.func3 (c := _) (by unfold Try.f3; rfl) Try.ntmps3 (rs := [.tmp 4]) (by rw [Try.results3]) (by unfold Try.f3; rfl) (by simp) ?_
      simp only [argsCh, aRung, aBools]
      refine Wp.reg_seq (own := fun _ => false) tt_ok ?_
      iterate 2
        refine regv_pure (s1 := ?_) rfl rfl ?_ ?_ ?_
        rotate_left
        · simp [aCts, aCos, ht, hn]; rfl
        · first | (simp [aCts, aCos, ht, hn]; done) | (simp [aCts, aCos, ht, hn]; omega) | (simp [aCts, aCos, ht, hn, rowsOf]; omega) | skip
      refine regv_nil ?_
      refine Wp.seq ?_
      refine Wp.reg_seq (own := fun _ => false) tt_ok ?_
      iterate 1
        refine regv_pure (s1 := ?_) rfl rfl ?_ ?_ ?_
        rotate_left
        · simp [aCts, aCos, ht, hn]; rfl
        · first | (simp [aCts, aCos, ht, hn]; done) | (simp [aCts, aCos, ht, hn]; omega) | (simp [aCts, aCos, ht, hn, rowsOf]; omega) | skip
      refine regv_call (s' := ?_) (htl) rfl rfl rfl rfl rfl ?_ ?_ ?_ ?_
      rotate_left 1
      · first | (simp [aCts, aCos, ht, hn]; done) | (simp [aCts, aCos, ht, hn]; omega) | (simp [aCts, aCos, ht, hn, rowsOf]; omega) | skip
      · simp
      · simp [aCts, aCos, ht, hn]; rfl
      iterate 2
        refine regv_pure (s1 := ?_) rfl rfl ?_ ?_ ?_
        rotate_left
        · simp [aCts, aCos, ht, hn]; rfl
        · first | (simp [aCts, aCos, ht, hn]; done) | (simp [aCts, aCos, ht, hn]; omega) | (simp [aCts, aCos, ht, hn, rowsOf]; omega) | skip
      first
        | (refine regv_pure (s1 := ?_) rfl ?_ ?_ ?_ ?_
           rotate_left
           · simp [aCts, aCos, ht, hn]; done
           · simp [aCts, aCos, ht, hn]; rfl
           · first | (simp [aCts, aCos, ht, hn]; done) | (simp [aCts, aCos, ht, hn]; omega) | (simp [aCts, aCos, ht, hn, rowsOf]; omega) | skip)
        | (refine regv_skip (s1 := ?_) ?_ ?_ ?_
           rotate_left
           · simp [aCts, aCos, ht, hn]; done
           · simp [aCts, aCos, ht, hn]; rfl)
      first
        | (refine regv_pure (s1 := ?_) rfl ?_ ?_ ?_ ?_
           rotate_left
           · simp [aCts, aCos, ht, hn]; done
           · simp [aCts, aCos, ht, hn]; rfl
           · first | (simp [aCts, aCos, ht, hn]; done) | (simp [aCts, aCos, ht, hn]; omega) | (simp [aCts, aCos, ht, hn, rowsOf]; omega) | skip)
        | (refine regv_skip (s1 := ?_) ?_ ?_ ?_
           rotate_left
           · simp [aCts, aCos, ht, hn]; done
           · simp [aCts, aCos, ht, hn]; rfl)
      first
        | (refine regv_pure (s1 := ?_) rfl ?_ ?_ ?_ ?_
           rotate_left
           · simp [aCts, aCos, ht, hn]; done
           · simp [aCts, aCos, ht, hn]; rfl
           · first | (simp [aCts, aCos, ht, hn]; done) | (simp [aCts, aCos, ht, hn]; omega) | (simp [aCts, aCos, ht, hn, rowsOf]; omega) | skip)
        | (refine regv_skip (s1 := ?_) ?_ ?_ ?_
           rotate_left
           · simp [aCts, aCos, ht, hn]; done
           · simp [aCts, aCos, ht, hn]; rfl)
      iterate 1
        refine regv_pure (s1 := ?_) rfl rfl ?_ ?_ ?_
        rotate_left
        · simp [aCts, aCos, ht, hn]; rfl
        · first | (simp [aCts, aCos, ht, hn]; done) | (simp [aCts, aCos, ht, hn]; omega) | (simp [aCts, aCos, ht, hn, rowsOf]; omega) | skip
      refine regv_nil ?_
      refine Wp.cond true rfl (fun _ => ?_) (fun h => by cases h)
      refine Wp.reg_seq (own := fun _ => false) tt_ok ?_
      refine regv_call (s' := ?_) (alive_con) rfl rfl rfl rfl rfl ?_ ?_ ?_ ?_
      rotate_left 1
      · first | (simp [aCts, aCos, ht, hn]; done) | (simp [aCts, aCos, ht, hn]; omega) | (simp [aCts, aCos, ht, hn, rowsOf]; omega) | skip
      · simp
      · simp [aCts, aCos, ht, hn]; rfl
      iterate 1
        refine regv_pure (s1 := ?_) rfl rfl ?_ ?_ ?_
        rotate_left
        · simp [aCts, aCos, ht, hn]; rfl
        · first | (simp [aCts, aCos, ht, hn]; done) | (simp [aCts, aCos, ht, hn]; omega) | (simp [aCts, aCos, ht, hn, rowsOf]; omega) | skip
      refine regv_nil ?_
      refine Wp.ret (endQ_ret0 rfl ?_)
      exact .refl _ rfl
    · have hsm := tooS_small ht
      have h1 := conducts_con lab j cs os on (by omega)
      have h2 := rconducts_con lab j cs os on (by omega)
      generalize (if on.length = cs.length then reachB cs on else false) = v at h1 h2
      generalize (if on.length = cs.length then (0 : Int) else 2) = w at h1 h2
      refine con_of (T := TT0) tt_ok Try.func3 (c := _) (by unfold Try.f3; rfl) Try.ntmps3 (rs := [.tmp 4]) (by rw [Try.results3]) (by unfold Try.f3; rfl) (by simp) ?_
      simp only [argsCh, aRung, aBools]
      refine Wp.reg_seq (own := fun _ => false) tt_ok ?_
      iterate 2
        refine regv_pure (s1 := ?_) rfl rfl ?_ ?_ ?_
        rotate_left
        · simp [aCts, aCos, ht, hn]; rfl
        · first | (simp [aCts, aCos, ht, hn]; done) | (simp [aCts, aCos, ht, hn]; omega) | (simp [aCts, aCos, ht, hn, rowsOf]; omega) | skip
      refine regv_nil ?_
      refine Wp.seq ?_
      refine Wp.reg_seq (own := fun _ => false) tt_ok ?_
      iterate 1
        refine regv_pure (s1 := ?_) rfl rfl ?_ ?_ ?_
        rotate_left
        · simp [aCts, aCos, ht, hn]; rfl
        · first | (simp [aCts, aCos, ht, hn]; done) | (simp [aCts, aCos, ht, hn]; omega) | (simp [aCts, aCos, ht, hn, rowsOf]; omega) | skip
      refine regv_call (s' := ?_) (htl) rfl rfl rfl rfl rfl ?_ ?_ ?_ ?_
      rotate_left 1
      · first | (simp [aCts, aCos, ht, hn]; done) | (simp [aCts, aCos, ht, hn]; omega) | (simp [aCts, aCos, ht, hn, rowsOf]; omega) | skip
      · simp
      · simp [aCts, aCos, ht, hn]; rfl
      iterate 2
        refine regv_pure (s1 := ?_) rfl rfl ?_ ?_ ?_
        rotate_left
        · simp [aCts, aCos, ht, hn]; rfl
        · first | (simp [aCts, aCos, ht, hn]; done) | (simp [aCts, aCos, ht, hn]; omega) | (simp [aCts, aCos, ht, hn, rowsOf]; omega) | skip
      first
        | (refine regv_pure (s1 := ?_) rfl ?_ ?_ ?_ ?_
           rotate_left
           · simp [aCts, aCos, ht, hn]; done
           · simp [aCts, aCos, ht, hn]; rfl
           · first | (simp [aCts, aCos, ht, hn]; done) | (simp [aCts, aCos, ht, hn]; omega) | (simp [aCts, aCos, ht, hn, rowsOf]; omega) | skip)
        | (refine regv_skip (s1 := ?_) ?_ ?_ ?_
           rotate_left
           · simp [aCts, aCos, ht, hn]; done
           · simp [aCts, aCos, ht, hn]; rfl)
      first
        | (refine regv_pure (s1 := ?_) rfl ?_ ?_ ?_ ?_
           rotate_left
           · simp [aCts, aCos, ht, hn]; done
           · simp [aCts, aCos, ht, hn]; rfl
           · first | (simp [aCts, aCos, ht, hn]; done) | (simp [aCts, aCos, ht, hn]; omega) | (simp [aCts, aCos, ht, hn, rowsOf]; omega) | skip)
        | (refine regv_skip (s1 := ?_) ?_ ?_ ?_
           rotate_left
           · simp [aCts, aCos, ht, hn]; done
           · simp [aCts, aCos, ht, hn]; rfl)
      first
        | (refine regv_pure (s1 := ?_) rfl ?_ ?_ ?_ ?_
           rotate_left
           · simp [aCts, aCos, ht, hn]; done
           · simp [aCts, aCos, ht, hn]; rfl
           · first | (simp [aCts, aCos, ht, hn]; done) | (simp [aCts, aCos, ht, hn]; omega) | (simp [aCts, aCos, ht, hn, rowsOf]; omega) | skip)
        | (refine regv_skip (s1 := ?_) ?_ ?_ ?_
           rotate_left
           · simp [aCts, aCos, ht, hn]; done
           · simp [aCts, aCos, ht, hn]; rfl)
      iterate 1
        refine regv_pure (s1 := ?_) rfl rfl ?_ ?_ ?_
        rotate_left
        · simp [aCts, aCos, ht, hn]; rfl
        · first | (simp [aCts, aCos, ht, hn]; done) | (simp [aCts, aCos, ht, hn]; omega) | (simp [aCts, aCos, ht, hn, rowsOf]; omega) | skip
      refine regv_nil ?_
      refine Wp.cond false rfl (fun h => by cases h) (fun _ => ?_)
      refine Wp.skip ?_
      show Wp _ _ _ _
      refine Wp.reg_seq (own := fun _ => false) tt_ok ?_
      iterate 2
        refine regv_pure (s1 := ?_) rfl rfl ?_ ?_ ?_
        rotate_left
        · simp [aCts, aCos, ht, hn]; rfl
        · first | (simp [aCts, aCos, ht, hn]; done) | (simp [aCts, aCos, ht, hn]; omega) | (simp [aCts, aCos, ht, hn, rowsOf]; omega) | skip
      refine regv_call (s' := ?_) (h1) rfl rfl rfl rfl rfl ?_ ?_ ?_ ?_
      rotate_left 1
      · first | (simp [aCts, aCos, ht, hn]; done) | (simp [aCts, aCos, ht, hn]; omega) | (simp [aCts, aCos, ht, hn, rowsOf]; omega) | skip
      · simp
      · simp [aCts, aCos, ht, hn]; rfl
      iterate 5
        refine regv_pure (s1 := ?_) rfl rfl ?_ ?_ ?_
        rotate_left
        · simp [aCts, aCos, ht, hn]; rfl
        · first | (simp [aCts, aCos, ht, hn]; done) | (simp [aCts, aCos, ht, hn]; omega) | (simp [aCts, aCos, ht, hn, rowsOf]; omega) | skip
      refine regv_nil ?_
      refine Wp.reg_seq (own := fun _ => false) tt_ok ?_
      iterate 2
        refine regv_pure (s1 := ?_) rfl rfl ?_ ?_ ?_
        rotate_left
        · simp [aCts, aCos, ht, hn]; rfl
        · first | (simp [aCts, aCos, ht, hn]; done) | (simp [aCts, aCos, ht, hn]; omega) | (simp [aCts, aCos, ht, hn, rowsOf]; omega) | skip
      refine regv_call (s' := ?_) (h2) rfl rfl rfl rfl rfl ?_ ?_ ?_ ?_
      rotate_left 1
      · first | (simp [aCts, aCos, ht, hn]; done) | (simp [aCts, aCos, ht, hn]; omega) | (simp [aCts, aCos, ht, hn, rowsOf]; omega) | skip
      · simp
      · simp [aCts, aCos, ht, hn]; rfl
      iterate 5
        refine regv_pure (s1 := ?_) rfl rfl ?_ ?_ ?_
        rotate_left
        · simp [aCts, aCos, ht, hn]; rfl
        · first | (simp [aCts, aCos, ht, hn]; done) | (simp [aCts, aCos, ht, hn]; omega) | (simp [aCts, aCos, ht, hn, rowsOf]; omega) | skip
      refine regv_nil ?_
      refine Wp.reg_seq (own := fun _ => false) tt_ok ?_
      refine regv_call (s' := ?_) (alive_con) rfl rfl rfl rfl rfl ?_ ?_ ?_ ?_
      rotate_left 1
      · first | (simp [aCts, aCos, ht, hn]; done) | (simp [aCts, aCos, ht, hn]; omega) | (simp [aCts, aCos, ht, hn, rowsOf]; omega) | skip
      · simp
      · simp [aCts, aCos, ht, hn]; rfl
      iterate 1
        refine regv_pure (s1 := ?_) rfl rfl ?_ ?_ ?_
        rotate_left
        · simp [aCts, aCos, ht, hn]; rfl
        · first | (simp [aCts, aCos, ht, hn]; done) | (simp [aCts, aCos, ht, hn]; omega) | (simp [aCts, aCos, ht, hn, rowsOf]; omega) | skip
      first
        | (refine regv_pure (s1 := ?_) rfl ?_ ?_ ?_ ?_
           rotate_left
           · simp [aCts, aCos, ht, hn]; done
           · simp [aCts, aCos, ht, hn]; rfl
           · first | (simp [aCts, aCos, ht, hn]; done) | (simp [aCts, aCos, ht, hn]; omega) | (simp [aCts, aCos, ht, hn, rowsOf]; omega) | skip)
        | (refine regv_skip (s1 := ?_) ?_ ?_ ?_
           rotate_left
           · simp [aCts, aCos, ht, hn]; done
           · simp [aCts, aCos, ht, hn]; rfl)
      first
        | (refine regv_pure (s1 := ?_) rfl ?_ ?_ ?_ ?_
           rotate_left
           · simp [aCts, aCos, ht, hn]; done
           · simp [aCts, aCos, ht, hn]; rfl
           · first | (simp [aCts, aCos, ht, hn]; done) | (simp [aCts, aCos, ht, hn]; omega) | (simp [aCts, aCos, ht, hn, rowsOf]; omega) | skip)
        | (refine regv_skip (s1 := ?_) ?_ ?_ ?_
           rotate_left
           · simp [aCts, aCos, ht, hn]; done
           · simp [aCts, aCos, ht, hn]; rfl)
      first
        | (refine regv_pure (s1 := ?_) rfl ?_ ?_ ?_ ?_
           rotate_left
           · simp [aCts, aCos, ht, hn]; done
           · simp [aCts, aCos, ht, hn]; rfl
           · first | (simp [aCts, aCos, ht, hn]; done) | (simp [aCts, aCos, ht, hn]; omega) | (simp [aCts, aCos, ht, hn, rowsOf]; omega) | skip)
        | (refine regv_skip (s1 := ?_) ?_ ?_ ?_
           rotate_left
           · simp [aCts, aCos, ht, hn]; done
           · simp [aCts, aCos, ht, hn]; rfl)
      iterate 2
        refine regv_pure (s1 := ?_) rfl rfl ?_ ?_ ?_
        rotate_left
        · simp [aCts, aCos, ht, hn]; rfl
        · first | (simp [aCts, aCos, ht, hn]; done) | (simp [aCts, aCos, ht, hn]; omega) | (simp [aCts, aCos, ht, hn, rowsOf]; omega) | skip
      first
        | (refine regv_pure (s1 := ?_) rfl ?_ ?_ ?_ ?_
           rotate_left
           · simp [aCts, aCos, ht, hn]; done
           · simp [aCts, aCos, ht, hn]; rfl
           · first | (simp [aCts, aCos, ht, hn]; done) | (simp [aCts, aCos, ht, hn]; omega) | (simp [aCts, aCos, ht, hn, rowsOf]; omega) | skip)
        | (refine regv_skip (s1 := ?_) ?_ ?_ ?_
           rotate_left
           · simp [aCts, aCos, ht, hn]; done
           · simp [aCts, aCos, ht, hn]; rfl)
      first
        | (refine regv_pure (s1 := ?_) rfl ?_ ?_ ?_ ?_
           rotate_left
           · simp [aCts, aCos, ht, hn]; done
           · simp [aCts, aCos, ht, hn]; rfl
           · first | (simp [aCts, aCos, ht, hn]; done) | (simp [aCts, aCos, ht, hn]; omega) | (simp [aCts, aCos, ht, hn, rowsOf]; omega) | skip)
        | (refine regv_skip (s1 := ?_) ?_ ?_ ?_
           rotate_left
           · simp [aCts, aCos, ht, hn]; done
           · simp [aCts, aCos, ht, hn]; rfl)
      first
        | (refine regv_pure (s1 := ?_) rfl ?_ ?_ ?_ ?_
           rotate_left
           · simp [aCts, aCos, ht, hn]; done
           · simp [aCts, aCos, ht, hn]; rfl
           · first | (simp [aCts, aCos, ht, hn]; done) | (simp [aCts, aCos, ht, hn]; omega) | (simp [aCts, aCos, ht, hn, rowsOf]; omega) | skip)
        | (refine regv_skip (s1 := ?_) ?_ ?_ ?_
           rotate_left
           · simp [aCts, aCos, ht, hn]; done
           · simp [aCts, aCos, ht, hn]; rfl)
      iterate 2
        refine regv_pure (s1 := ?_) rfl rfl ?_ ?_ ?_
        rotate_left
        · simp [aCts, aCos, ht, hn]; rfl
        · first | (simp [aCts, aCos, ht, hn]; done) | (simp [aCts, aCos, ht, hn]; omega) | (simp [aCts, aCos, ht, hn, rowsOf]; omega) | skip
      refine regv_nil ?_
      refine Wp.ret (endQ_ret0 rfl ?_)
      exact .refl _ rfl

end Go.Proofs.Ytgbgmijighbfbaa
