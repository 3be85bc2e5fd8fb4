/- Contracts of Write and Coils. -/
import Derived.Test.YtgbgmijighbfbaaT4
set_option linter.unusedSimpArgs false
set_option linter.unusedVariables false
namespace Go.Proofs.Ytgbgmijighbfbaa
open Go.Av
attribute [local simp] runf guardA opf St.ev Go.Av.look St.setd constAV constAV0 opBin opLen intBin St.need lookT TT0 tab resA resOne resAll blt_dec ble_dec beq_dec isPure
attribute [local simp] opMakeSlice opCopy opIndexAddr opLoad opStore St.mem St.rows opUn calleeA toArgs toArg toArg0 toArgs0 shift shift0 shift1 splice cellsOf isFree ofCells TS.isAgg isCell
attribute [local simp] aBools aState opBuildSlice fillA opAppend St.newBox runI valKind withinB refsD refs noSl opFieldAddr opBuild placeOf Op.operands Call.operands opIndex opExtract opSlice opField partA
attribute [local congr] bind_congr1 map_congr1 cond_congr1
attribute [local simp] aAddr
set_option linter.unusedSimpArgs false

def writeS (q m e : List Bool) (sp n : Int) (v : Bool) : (List Bool × List Bool × List Bool) × Int :=
  if sp = 1 then (if 0 ≤ n ∧ n < q.length then ((q.set n.toNat v, m, e), 0) else (([], [], []), 3))
  else if sp = 2 then (if 0 ≤ n ∧ n < m.length then ((q, m.set n.toNat v, e), 0) else (([], [], []), 3))
  else (([], [], []), 8)

def aSta (s : List Bool × List Bool × List Bool) : AV := aState s.1 s.2.1 s.2.2

theorem write_con (q m e : List Bool) (sp n : Int) (v : Bool) (hq : q.length ≤ 1000000) (hm : m.length ≤ 1000000) (he : e.length ≤ 1000000) :
    Con Try.prog 31 [aState q m e, aAddr sp n, .bool v] (.tup [aSta (writeS q m e sp n v).1, .int .i64 (writeS q m e sp n v).2]) [] := by
  have hcl := sclone_con q m e hq hm he
  by_cases h1 : sp = 1
  · subst h1
    have hset := set_con q n v (by omega)
    by_cases hn : 0 ≤ n ∧ n < q.length
    · have hb : (decide (0 ≤ n) && decide (n < q.length)) = true := by simp [hn]
      rw [hb, cond_true] at hset
      simp only [writeS, aSta, if_pos hn, if_pos]
      refine con_of (T := TT0) tt_ok Try.func31 (c := _) (by unfold Try.f31; rfl) Try.ntmps31 (rs := [.cell 6 36, .tmp 7]) (by rw [Try.results31]) (by unfold Try.f31; rfl) (by simp) ?_
      simp only [argsCh, aAddr, aState, aBools]
      refine Wp.reg_seq (own := fun _ => false) tt_ok ?_
      iterate 4
        refine regv_pure (s1 := ?_) rfl rfl ?_ ?_ ?_
        rotate_left
        · simp; rfl
        · first | (simp; done) | (simp; omega) | (simp [rowsOf]; omega) | skip
      refine regv_nil ?_
      refine Wp.reg_seq (own := fun _ => false) tt_ok ?_
      iterate 1
        refine regv_pure (s1 := ?_) rfl rfl ?_ ?_ ?_
        rotate_left
        · simp; rfl
        · first | (simp; done) | (simp; omega) | (simp [rowsOf]; omega) | skip
      refine regv_call (s' := ?_) (hcl) rfl rfl rfl rfl rfl ?_ ?_ ?_ ?_
      rotate_left 1
      · first | (simp; done) | (simp; omega) | (simp [rowsOf]; omega) | skip
      · simp
      · simp; rfl
      iterate 2
        refine regv_pure (s1 := ?_) rfl rfl ?_ ?_ ?_
        rotate_left
        · simp; rfl
        · first | (simp; done) | (simp; omega) | (simp [rowsOf]; omega) | skip
      refine regv_nil ?_
      refine Wp.reg_seq (own := fun _ => false) tt_ok ?_
      iterate 1
        refine regv_pure (s1 := ?_) rfl rfl ?_ ?_ ?_
        rotate_left
        · simp; rfl
        · first | (simp; done) | (simp; omega) | (simp [rowsOf]; omega) | skip
      refine regv_nil ?_
      refine Wp.seq ?_
      refine Wp.reg_seq (own := fun _ => false) tt_ok ?_
      iterate 2
        refine regv_pure (s1 := ?_) rfl rfl ?_ ?_ ?_
        rotate_left
        · simp; rfl
        · first | (simp; done) | (simp; omega) | (simp [rowsOf]; omega) | skip
      refine regv_nil ?_
      refine Wp.block ?_
      refine Wp.reg_seq (own := fun _ => false) tt_ok ?_
      iterate 2
        refine regv_pure (s1 := ?_) rfl rfl ?_ ?_ ?_
        rotate_left
        · simp; rfl
        · first | (simp; done) | (simp; omega) | (simp [rowsOf]; omega) | skip
      refine regv_nil ?_
      refine Wp.cond true rfl (fun _ => ?_) (fun h => by cases h)
      refine Wp.reg (own := fun _ => false) tt_ok ?_
      iterate 5
        refine regv_pure (s1 := ?_) rfl rfl ?_ ?_ ?_
        rotate_left
        · simp; rfl
        · first | (simp; done) | (simp; omega) | (simp [rowsOf]; omega) | skip
      refine regv_call (s' := ?_) (hset) rfl rfl rfl rfl rfl ?_ ?_ ?_ ?_
      rotate_left 1
      · first | (simp; done) | (simp; omega) | (simp [rowsOf]; omega) | skip
      · simp
      · simp; rfl
      iterate 6
        refine regv_pure (s1 := ?_) rfl rfl ?_ ?_ ?_
        rotate_left
        · simp; rfl
        · first | (simp; done) | (simp; omega) | (simp [rowsOf]; omega) | skip
      refine regv_nil ?_
      show Wp _ _ _ _
      refine Wp.seq ?_
      refine Wp.reg_seq (own := fun _ => false) tt_ok ?_
      iterate 2
        refine regv_pure (s1 := ?_) rfl rfl ?_ ?_ ?_
        rotate_left
        · simp; rfl
        · first | (simp; done) | (simp; omega) | (simp [rowsOf]; omega) | skip
      refine regv_nil ?_
      refine Wp.cond false rfl (fun h => by cases h) (fun _ => ?_)
      refine Wp.skip ?_
      show Wp _ _ _ _
      refine Wp.reg_seq (own := fun _ => false) tt_ok ?_
      iterate 3
        refine regv_pure (s1 := ?_) rfl rfl ?_ ?_ ?_
        rotate_left
        · simp; rfl
        · first | (simp; done) | (simp; omega) | (simp [rowsOf]; omega) | skip
      refine regv_nil ?_
      refine Wp.ret (endQ_ret0 rfl ?_)
      exact .tups (.cons (.aggs (.cons (.eq (by simp) rfl) (.cons (.eq (by simp) rfl) (.cons (.eq (by simp) rfl) .nil)))) (.cons (.refl _ rfl) .nil))
    · have hb : (decide (0 ≤ n) && decide (n < q.length)) = false := by simp; omega
      rw [hb, cond_false] at hset
      simp only [writeS, aSta, if_neg hn, if_pos]
      refine con_of (T := TT0) tt_ok Try.func31 (c := _) (by unfold Try.f31; rfl) Try.ntmps31 (rs := [.cell 6 36, .tmp 7]) (by rw [Try.results31]) (by unfold Try.f31; rfl) (by simp) ?_
      simp only [argsCh, aAddr, aState, aBools]
      refine Wp.reg_seq (own := fun _ => false) tt_ok ?_
      iterate 4
        refine regv_pure (s1 := ?_) rfl rfl ?_ ?_ ?_
        rotate_left
        · simp; rfl
        · first | (simp; done) | (simp; omega) | (simp [rowsOf]; omega) | skip
      refine regv_nil ?_
      refine Wp.reg_seq (own := fun _ => false) tt_ok ?_
      iterate 1
        refine regv_pure (s1 := ?_) rfl rfl ?_ ?_ ?_
        rotate_left
        · simp; rfl
        · first | (simp; done) | (simp; omega) | (simp [rowsOf]; omega) | skip
      refine regv_call (s' := ?_) (hcl) rfl rfl rfl rfl rfl ?_ ?_ ?_ ?_
      rotate_left 1
      · first | (simp; done) | (simp; omega) | (simp [rowsOf]; omega) | skip
      · simp
      · simp; rfl
      iterate 2
        refine regv_pure (s1 := ?_) rfl rfl ?_ ?_ ?_
        rotate_left
        · simp; rfl
        · first | (simp; done) | (simp; omega) | (simp [rowsOf]; omega) | skip
      refine regv_nil ?_
      refine Wp.reg_seq (own := fun _ => false) tt_ok ?_
      iterate 1
        refine regv_pure (s1 := ?_) rfl rfl ?_ ?_ ?_
        rotate_left
        · simp; rfl
        · first | (simp; done) | (simp; omega) | (simp [rowsOf]; omega) | skip
      refine regv_nil ?_
      refine Wp.seq ?_
      refine Wp.reg_seq (own := fun _ => false) tt_ok ?_
      iterate 2
        refine regv_pure (s1 := ?_) rfl rfl ?_ ?_ ?_
        rotate_left
        · simp; rfl
        · first | (simp; done) | (simp; omega) | (simp [rowsOf]; omega) | skip
      refine regv_nil ?_
      refine Wp.block ?_
      refine Wp.reg_seq (own := fun _ => false) tt_ok ?_
      iterate 2
        refine regv_pure (s1 := ?_) rfl rfl ?_ ?_ ?_
        rotate_left
        · simp; rfl
        · first | (simp; done) | (simp; omega) | (simp [rowsOf]; omega) | skip
      refine regv_nil ?_
      refine Wp.cond true rfl (fun _ => ?_) (fun h => by cases h)
      refine Wp.reg (own := fun _ => false) tt_ok ?_
      iterate 5
        refine regv_pure (s1 := ?_) rfl rfl ?_ ?_ ?_
        rotate_left
        · simp; rfl
        · first | (simp; done) | (simp; omega) | (simp [rowsOf]; omega) | skip
      refine regv_call (s' := ?_) (hset) rfl rfl rfl rfl rfl ?_ ?_ ?_ ?_
      rotate_left 1
      · first | (simp; done) | (simp; omega) | (simp [rowsOf]; omega) | skip
      · simp
      · simp; rfl
      iterate 6
        refine regv_pure (s1 := ?_) rfl rfl ?_ ?_ ?_
        rotate_left
        · simp; rfl
        · first | (simp; done) | (simp; omega) | (simp [rowsOf]; omega) | skip
      refine regv_nil ?_
      show Wp _ _ _ _
      refine Wp.seq ?_
      refine Wp.reg_seq (own := fun _ => false) tt_ok ?_
      iterate 2
        refine regv_pure (s1 := ?_) rfl rfl ?_ ?_ ?_
        rotate_left
        · simp; rfl
        · first | (simp; done) | (simp; omega) | (simp [rowsOf]; omega) | skip
      refine regv_nil ?_
      refine Wp.cond true rfl (fun _ => ?_) (fun h => by cases h)
      refine Wp.reg_seq (own := fun _ => false) tt_ok ?_
      iterate 4
        refine regv_pure (s1 := ?_) rfl rfl ?_ ?_ ?_
        rotate_left
        · simp; rfl
        · first | (simp; done) | (simp; omega) | (simp [rowsOf]; omega) | skip
      refine regv_nil ?_
      refine Wp.ret (endQ_ret0 rfl ?_)
      exact .tups (.cons (.aggs (.cons (.nil _) (.cons (.nil _) (.cons (.nil _) .nil)))) (.cons (.refl _ rfl) .nil))
  · have h1' : (sp == 1) = false := by simp [h1]
    by_cases h2 : sp = 2
    · subst h2
      have hset := set_con m n v (by omega)
      by_cases hn : 0 ≤ n ∧ n < m.length
      · have hb : (decide (0 ≤ n) && decide (n < m.length)) = true := by simp [hn]
        rw [hb, cond_true] at hset
        simp only [writeS, aSta, if_pos hn, if_pos, if_neg h1]
        refine con_of (T := TT0) tt_ok Try.func31 (c := _) (by unfold Try.f31; rfl) Try.ntmps31 (rs := [.cell 6 36, .tmp 7]) (by rw [Try.results31]) (by unfold Try.f31; rfl) (by simp) ?_
        simp only [argsCh, aAddr, aState, aBools]
        refine Wp.reg_seq (own := fun _ => false) tt_ok ?_
        iterate 4
          refine regv_pure (s1 := ?_) rfl rfl ?_ ?_ ?_
          rotate_left
          · simp; rfl
          · first | (simp; done) | (simp; omega) | (simp [rowsOf]; omega) | skip
        refine regv_nil ?_
        refine Wp.reg_seq (own := fun _ => false) tt_ok ?_
        iterate 1
          refine regv_pure (s1 := ?_) rfl rfl ?_ ?_ ?_
          rotate_left
          · simp; rfl
          · first | (simp; done) | (simp; omega) | (simp [rowsOf]; omega) | skip
        refine regv_call (s' := ?_) (hcl) rfl rfl rfl rfl rfl ?_ ?_ ?_ ?_
        rotate_left 1
        · first | (simp; done) | (simp; omega) | (simp [rowsOf]; omega) | skip
        · simp
        · simp; rfl
        iterate 2
          refine regv_pure (s1 := ?_) rfl rfl ?_ ?_ ?_
          rotate_left
          · simp; rfl
          · first | (simp; done) | (simp; omega) | (simp [rowsOf]; omega) | skip
        refine regv_nil ?_
        refine Wp.reg_seq (own := fun _ => false) tt_ok ?_
        iterate 1
          refine regv_pure (s1 := ?_) rfl rfl ?_ ?_ ?_
          rotate_left
          · simp; rfl
          · first | (simp; done) | (simp; omega) | (simp [rowsOf]; omega) | skip
        refine regv_nil ?_
        refine Wp.seq ?_
        refine Wp.reg_seq (own := fun _ => false) tt_ok ?_
        iterate 2
          refine regv_pure (s1 := ?_) rfl rfl ?_ ?_ ?_
          rotate_left
          · simp; rfl
          · first | (simp; done) | (simp; omega) | (simp [rowsOf]; omega) | skip
        refine regv_nil ?_
        refine Wp.block ?_
        refine Wp.reg_seq (own := fun _ => false) tt_ok ?_
        iterate 2
          refine regv_pure (s1 := ?_) rfl rfl ?_ ?_ ?_
          rotate_left
          · simp; rfl
          · first | (simp; done) | (simp; omega) | (simp [rowsOf]; omega) | skip
        refine regv_nil ?_
        refine Wp.cond false rfl (fun h => by cases h) (fun _ => ?_)
        refine Wp.reg_seq (own := fun _ => false) tt_ok ?_
        iterate 2
          refine regv_pure (s1 := ?_) rfl rfl ?_ ?_ ?_
          rotate_left
          · simp; rfl
          · first | (simp; done) | (simp; omega) | (simp [rowsOf]; omega) | skip
        refine regv_nil ?_
        refine Wp.cond true rfl (fun _ => ?_) (fun h => by cases h)
        refine Wp.reg (own := fun _ => false) tt_ok ?_
        iterate 5
          refine regv_pure (s1 := ?_) rfl rfl ?_ ?_ ?_
          rotate_left
          · simp; rfl
          · first | (simp; done) | (simp; omega) | (simp [rowsOf]; omega) | skip
        refine regv_call (s' := ?_) (hset) rfl rfl rfl rfl rfl ?_ ?_ ?_ ?_
        rotate_left 1
        · first | (simp; done) | (simp; omega) | (simp [rowsOf]; omega) | skip
        · simp
        · simp; rfl
        iterate 6
          refine regv_pure (s1 := ?_) rfl rfl ?_ ?_ ?_
          rotate_left
          · simp; rfl
          · first | (simp; done) | (simp; omega) | (simp [rowsOf]; omega) | skip
        refine regv_nil ?_
        show Wp _ _ _ _
        refine Wp.seq ?_
        refine Wp.reg_seq (own := fun _ => false) tt_ok ?_
        iterate 2
          refine regv_pure (s1 := ?_) rfl rfl ?_ ?_ ?_
          rotate_left
          · simp; rfl
          · first | (simp; done) | (simp; omega) | (simp [rowsOf]; omega) | skip
        refine regv_nil ?_
        refine Wp.cond false rfl (fun h => by cases h) (fun _ => ?_)
        refine Wp.skip ?_
        show Wp _ _ _ _
        refine Wp.reg_seq (own := fun _ => false) tt_ok ?_
        iterate 3
          refine regv_pure (s1 := ?_) rfl rfl ?_ ?_ ?_
          rotate_left
          · simp; rfl
          · first | (simp; done) | (simp; omega) | (simp [rowsOf]; omega) | skip
        refine regv_nil ?_
        refine Wp.ret (endQ_ret0 rfl ?_)
        exact .tups (.cons (.aggs (.cons (.eq (by simp) rfl) (.cons (.eq (by simp) rfl) (.cons (.eq (by simp) rfl) .nil)))) (.cons (.refl _ rfl) .nil))
      · have hb : (decide (0 ≤ n) && decide (n < m.length)) = false := by simp; omega
        rw [hb, cond_false] at hset
        simp only [writeS, aSta, if_neg hn, if_pos, if_neg h1]
        refine con_of (T := TT0) tt_ok Try.func31 (c := _) (by unfold Try.f31; rfl) Try.ntmps31 (rs := [.cell 6 36, .tmp 7]) (by rw [Try.results31]) (by unfold Try.f31; rfl) (by simp) ?_
        simp only [argsCh, aAddr, aState, aBools]
        refine Wp.reg_seq (own := fun _ => false) tt_ok ?_
        iterate 4
          refine regv_pure (s1 := ?_) rfl rfl ?_ ?_ ?_
          rotate_left
          · simp; rfl
          · first | (simp; done) | (simp; omega) | (simp [rowsOf]; omega) | skip
        refine regv_nil ?_
        refine Wp.reg_seq (own := fun _ => false) tt_ok ?_
        iterate 1
          refine regv_pure (s1 := ?_) rfl rfl ?_ ?_ ?_
          rotate_left
          · simp; rfl
          · first | (simp; done) | (simp; omega) | (simp [rowsOf]; omega) | skip
        refine regv_call (s' := ?_) (hcl) rfl rfl rfl rfl rfl ?_ ?_ ?_ ?_
        rotate_left 1
        · first | (simp; done) | (simp; omega) | (simp [rowsOf]; omega) | skip
        · simp
        · simp; rfl
        iterate 2
          refine regv_pure (s1 := ?_) rfl rfl ?_ ?_ ?_
          rotate_left
          · simp; rfl
          · first | (simp; done) | (simp; omega) | (simp [rowsOf]; omega) | skip
        refine regv_nil ?_
        refine Wp.reg_seq (own := fun _ => false) tt_ok ?_
        iterate 1
          refine regv_pure (s1 := ?_) rfl rfl ?_ ?_ ?_
          rotate_left
          · simp; rfl
          · first | (simp; done) | (simp; omega) | (simp [rowsOf]; omega) | skip
        refine regv_nil ?_
        refine Wp.seq ?_
        refine Wp.reg_seq (own := fun _ => false) tt_ok ?_
        iterate 2
          refine regv_pure (s1 := ?_) rfl rfl ?_ ?_ ?_
          rotate_left
          · simp; rfl
          · first | (simp; done) | (simp; omega) | (simp [rowsOf]; omega) | skip
        refine regv_nil ?_
        refine Wp.block ?_
        refine Wp.reg_seq (own := fun _ => false) tt_ok ?_
        iterate 2
          refine regv_pure (s1 := ?_) rfl rfl ?_ ?_ ?_
          rotate_left
          · simp; rfl
          · first | (simp; done) | (simp; omega) | (simp [rowsOf]; omega) | skip
        refine regv_nil ?_
        refine Wp.cond false rfl (fun h => by cases h) (fun _ => ?_)
        refine Wp.reg_seq (own := fun _ => false) tt_ok ?_
        iterate 2
          refine regv_pure (s1 := ?_) rfl rfl ?_ ?_ ?_
          rotate_left
          · simp; rfl
          · first | (simp; done) | (simp; omega) | (simp [rowsOf]; omega) | skip
        refine regv_nil ?_
        refine Wp.cond true rfl (fun _ => ?_) (fun h => by cases h)
        refine Wp.reg (own := fun _ => false) tt_ok ?_
        iterate 5
          refine regv_pure (s1 := ?_) rfl rfl ?_ ?_ ?_
          rotate_left
          · simp; rfl
          · first | (simp; done) | (simp; omega) | (simp [rowsOf]; omega) | skip
        refine regv_call (s' := ?_) (hset) rfl rfl rfl rfl rfl ?_ ?_ ?_ ?_
        rotate_left 1
        · first | (simp; done) | (simp; omega) | (simp [rowsOf]; omega) | skip
        · simp
        · simp; rfl
        iterate 6
          refine regv_pure (s1 := ?_) rfl rfl ?_ ?_ ?_
          rotate_left
          · simp; rfl
          · first | (simp; done) | (simp; omega) | (simp [rowsOf]; omega) | skip
        refine regv_nil ?_
        show Wp _ _ _ _
        refine Wp.seq ?_
        refine Wp.reg_seq (own := fun _ => false) tt_ok ?_
        iterate 2
          refine regv_pure (s1 := ?_) rfl rfl ?_ ?_ ?_
          rotate_left
          · simp; rfl
          · first | (simp; done) | (simp; omega) | (simp [rowsOf]; omega) | skip
        refine regv_nil ?_
        refine Wp.cond true rfl (fun _ => ?_) (fun h => by cases h)
        refine Wp.reg_seq (own := fun _ => false) tt_ok ?_
        iterate 4
          refine regv_pure (s1 := ?_) rfl rfl ?_ ?_ ?_
          rotate_left
          · simp; rfl
          · first | (simp; done) | (simp; omega) | (simp [rowsOf]; omega) | skip
        refine regv_nil ?_
        refine Wp.ret (endQ_ret0 rfl ?_)
        exact .tups (.cons (.aggs (.cons (.nil _) (.cons (.nil _) (.cons (.nil _) .nil)))) (.cons (.refl _ rfl) .nil))
    · have h2' : (sp == 2) = false := by simp [h2]
      simp only [writeS, aSta, if_neg h1, if_neg h2]
      refine con_of (T := TT0) tt_ok Try.func31 (c := _) (by unfold Try.f31; rfl) Try.ntmps31 (rs := [.cell 6 36, .tmp 7]) (by rw [Try.results31]) (by unfold Try.f31; rfl) (by simp) ?_
      simp only [argsCh, aAddr, aState, aBools]
      refine Wp.reg_seq (own := fun _ => false) tt_ok ?_
      iterate 4
        refine regv_pure (s1 := ?_) rfl rfl ?_ ?_ ?_
        rotate_left
        · simp [h1', h2']; rfl
        · first | (simp [h1', h2']; done) | (simp [h1', h2']; omega) | (simp [h1', h2', rowsOf]; omega) | skip
      refine regv_nil ?_
      refine Wp.reg_seq (own := fun _ => false) tt_ok ?_
      iterate 1
        refine regv_pure (s1 := ?_) rfl rfl ?_ ?_ ?_
        rotate_left
        · simp [h1', h2']; rfl
        · first | (simp [h1', h2']; done) | (simp [h1', h2']; omega) | (simp [h1', h2', rowsOf]; omega) | skip
      refine regv_call (s' := ?_) (hcl) rfl rfl rfl rfl rfl ?_ ?_ ?_ ?_
      rotate_left 1
      · first | (simp [h1', h2']; done) | (simp [h1', h2']; omega) | (simp [h1', h2', rowsOf]; omega) | skip
      · simp
      · simp [h1', h2']; rfl
      iterate 2
        refine regv_pure (s1 := ?_) rfl rfl ?_ ?_ ?_
        rotate_left
        · simp [h1', h2']; rfl
        · first | (simp [h1', h2']; done) | (simp [h1', h2']; omega) | (simp [h1', h2', rowsOf]; omega) | skip
      refine regv_nil ?_
      refine Wp.reg_seq (own := fun _ => false) tt_ok ?_
      iterate 1
        refine regv_pure (s1 := ?_) rfl rfl ?_ ?_ ?_
        rotate_left
        · simp [h1', h2']; rfl
        · first | (simp [h1', h2']; done) | (simp [h1', h2']; omega) | (simp [h1', h2', rowsOf]; omega) | skip
      refine regv_nil ?_
      refine Wp.seq ?_
      refine Wp.reg_seq (own := fun _ => false) tt_ok ?_
      iterate 2
        refine regv_pure (s1 := ?_) rfl rfl ?_ ?_ ?_
        rotate_left
        · simp [h1', h2']; rfl
        · first | (simp [h1', h2']; done) | (simp [h1', h2']; omega) | (simp [h1', h2', rowsOf]; omega) | skip
      refine regv_nil ?_
      refine Wp.block ?_
      refine Wp.reg_seq (own := fun _ => false) tt_ok ?_
      iterate 2
        refine regv_pure (s1 := ?_) rfl rfl ?_ ?_ ?_
        rotate_left
        · simp [h1', h2']; rfl
        · first | (simp [h1', h2']; done) | (simp [h1', h2']; omega) | (simp [h1', h2', rowsOf]; omega) | skip
      refine regv_nil ?_
      refine Wp.cond false rfl (fun h => by cases h) (fun _ => ?_)
      refine Wp.reg_seq (own := fun _ => false) tt_ok ?_
      iterate 2
        refine regv_pure (s1 := ?_) rfl rfl ?_ ?_ ?_
        rotate_left
        · simp [h1', h2']; rfl
        · first | (simp [h1', h2']; done) | (simp [h1', h2']; omega) | (simp [h1', h2', rowsOf]; omega) | skip
      refine regv_nil ?_
      refine Wp.cond false rfl (fun h => by cases h) (fun _ => ?_)
      refine Wp.reg (own := fun _ => false) tt_ok ?_
      iterate 1
        refine regv_pure (s1 := ?_) rfl rfl ?_ ?_ ?_
        rotate_left
        · simp [h1', h2']; rfl
        · first | (simp [h1', h2']; done) | (simp [h1', h2']; omega) | (simp [h1', h2', rowsOf]; omega) | skip
      refine regv_nil ?_
      show Wp _ _ _ _
      refine Wp.seq ?_
      refine Wp.reg_seq (own := fun _ => false) tt_ok ?_
      iterate 2
        refine regv_pure (s1 := ?_) rfl rfl ?_ ?_ ?_
        rotate_left
        · simp [h1', h2']; rfl
        · first | (simp [h1', h2']; done) | (simp [h1', h2']; omega) | (simp [h1', h2', rowsOf]; omega) | skip
      refine regv_nil ?_
      refine Wp.cond true rfl (fun _ => ?_) (fun h => by cases h)
      refine Wp.reg_seq (own := fun _ => false) tt_ok ?_
      iterate 4
        refine regv_pure (s1 := ?_) rfl rfl ?_ ?_ ?_
        rotate_left
        · simp [h1', h2']; rfl
        · first | (simp [h1', h2']; done) | (simp [h1', h2']; omega) | (simp [h1', h2', rowsOf]; omega) | skip
      refine regv_nil ?_
      refine Wp.ret (endQ_ret0 rfl ?_)
      exact .tups (.cons (.aggs (.cons (.nil _) (.cons (.nil _) (.cons (.nil _) .nil)))) (.cons (.refl _ rfl) .nil))

def wvS (k : Int) (on : Bool) : Bool := if k = 0 then on else if k = 1 then !on else decide (k = 2)
def wwS (k : Int) (on : Bool) : Bool := if k < 2 then true else on

abbrev S3 := List Bool × List Bool × List Bool

def coilsS (on : Bool) : List Co → S3 → S3 × Int
  | [], s => (s, 0)
  | c :: cs, s => if c.kind < 0 ∨ 4 ≤ c.kind then (([], [], []), 8)
    else if (writeS s.1 s.2.1 s.2.2 c.sp c.n (wvS c.kind on)).2 ≠ 0 then (([], [], []), (writeS s.1 s.2.1 s.2.2 c.sp c.n (wvS c.kind on)).2)
    else coilsS on cs (if wwS c.kind on then (writeS s.1 s.2.1 s.2.2 c.sp c.n (wvS c.kind on)).1 else s)

def bounded (s : S3) : Prop := s.1.length ≤ 1000000 ∧ s.2.1.length ≤ 1000000 ∧ s.2.2.length ≤ 1000000

theorem writeS_bounded {s : S3} (h : bounded s) (sp n : Int) (v : Bool) : bounded (writeS s.1 s.2.1 s.2.2 sp n v).1 := by
  obtain ⟨h1, h2, h3⟩ := h
  unfold writeS
  split
  · split
    · exact ⟨by simpa using h1, h2, h3⟩
    · exact ⟨by simp, by simp, by simp⟩
  · split
    · split
      · exact ⟨h1, by simpa using h2, h3⟩
      · exact ⟨by simp, by simp, by simp⟩
    · exact ⟨by simp, by simp, by simp⟩

def coilsHead (on : Bool) (os : List Co) (x : Nat × S3) : St :=
  { ch := [(2, .bool on), (6, .hptr 0 0 0), (8, .hptr 1 0 0), (18, aCos os), (19, .int .i64 os.length), (20, .int .i64 x.1)],
    hp := [.var [.nilsl, .nilsl, .nilsl], .var [aBools x.2.1, aBools x.2.2.1, aBools x.2.2.2]], base := 0, n := 56, cond := True }

theorem coils_con (lab j : ByteArray) (cs : List Ct) (os : List Co) (q m e : List Bool) (on : Bool) (hos : os.length ≤ 1000000) (hq : q.length ≤ 1000000) (hm : m.length ≤ 1000000) (he : e.length ≤ 1000000) :
    Con Try.prog 19 [aRung lab cs os j, aState q m e, .bool on] (.tup [aSta (coilsS on os (q, m, e)).1, .int .i64 (coilsS on os (q, m, e)).2]) [] := by
  have hcl := sclone_con q m e hq hm he
  refine con_of (T := TT0) tt_ok Try.func19 (c := _) (by unfold Try.f19; rfl) Try.ntmps19 (rs := [.cell 6 36, .tmp 7]) (by rw [Try.results19]) (by unfold Try.f19; rfl) (by simp) ?_
  simp only [argsCh, aRung, aState, aBools]
  refine Wp.reg_seq (own := fun _ => false) tt_ok ?_
  iterate 4
    refine regv_pure (s1 := ?_) rfl rfl ?_ ?_ ?_
    rotate_left
    · simp [aCos, aCts, aSta]; rfl
    · first | (simp [aCos, aCts, aSta]; done) | (simp [aCos, aCts, aSta]; omega) | (simp [aCos, aCts, aSta, rowsOf]; omega) | skip
  refine regv_nil ?_
  refine Wp.reg_seq (own := fun _ => false) tt_ok ?_
  iterate 1
    refine regv_pure (s1 := ?_) rfl rfl ?_ ?_ ?_
    rotate_left
    · simp [aCos, aCts, aSta]; rfl
    · first | (simp [aCos, aCts, aSta]; done) | (simp [aCos, aCts, aSta]; omega) | (simp [aCos, aCts, aSta, rowsOf]; omega) | skip
  refine regv_call (s' := ?_) (hcl) rfl rfl rfl rfl rfl ?_ ?_ ?_ ?_
  rotate_left 1
  · first | (simp [aCos, aCts, aSta]; done) | (simp [aCos, aCts, aSta]; omega) | (simp [aCos, aCts, aSta, rowsOf]; omega) | skip
  · simp
  · simp [aCos, aCts, aSta]; rfl
  iterate 2
    refine regv_pure (s1 := ?_) rfl rfl ?_ ?_ ?_
    rotate_left
    · simp [aCos, aCts, aSta]; rfl
    · first | (simp [aCos, aCts, aSta]; done) | (simp [aCos, aCts, aSta]; omega) | (simp [aCos, aCts, aSta, rowsOf]; omega) | skip
  refine regv_nil ?_
  refine Wp.seq ?_
  refine Wp.reg_seq (own := fun _ => false) tt_ok ?_
  iterate 4
    refine regv_pure (s1 := ?_) rfl rfl ?_ ?_ ?_
    rotate_left
    · simp [aCos, aCts, aSta]; rfl
    · first | (simp [aCos, aCts, aSta]; done) | (simp [aCos, aCts, aSta]; omega) | (simp [aCos, aCts, aSta, rowsOf]; omega) | skip
  refine regv_nil ?_
  refine Wp.block ?_
  refine Wp.loop (α := Nat × S3) (coilsHead on os) (fun x => os.length - x.1) (fun x => x.1 ≤ os.length ∧ coilsS on os (q, m, e) = coilsS on (os.drop x.1) x.2 ∧ bounded x.2) ?_ ((0, (q, m, e))) ?_ ?_
  rotate_left
  ·
    exact ⟨Nat.zero_le _, rfl, hq, hm, he⟩
  ·
    refine Reloc.mk2 [some 2, some 3] rfl rfl rfl (by decide) ?_ ?_
    · repeat' first | exact objsLe_nil | refine objsLe_cons ?_ ?_
      all_goals first
        | (refine ObjLe.var' rfl rfl ?_ rfl
           repeat' first | exact All2.nil | refine All2.cons ?_ ?_
           all_goals first | (exact AvLe.refl _ rfl) | (exact AvLe.hptr _ _ _ _ rfl) | (exact AvLe.sl _ _ _ _ rfl) | (exact AvLe.sl' rfl (by simp) (by simp)) | (exact AvLe.mp _ _ rfl) | (exact AvLe.nil _) | (exact AvLe.ghost _ rfl) | (exact AvLe.eq (by simp [aCos, aCts, aSta]; done) rfl))
        | (exact ObjLe.map' rfl rfl)
        | (exact ObjLe.ghost' rfl (by decide))
        | (exact ObjLe.arr' rfl rfl (by first | (simp; done) | (simp; omega)) (fun _ _ => rfl))
    · repeat' first | exact chLe_nil | refine chLe_cons ?_ ?_
      all_goals first
        | (exact AvLe.refl _ rfl)
        | (exact AvLe.hptr _ _ _ _ rfl)
        | (exact AvLe.sl _ _ _ _ rfl)
        | (exact AvLe.sl' rfl (by simp) (by simp))
        | (exact AvLe.mp _ _ rfl)
        | (exact AvLe.nil _)
        | (exact AvLe.ghost _ rfl)
        | (exact AvLe.eq (by simp [aCos, aCts, aSta]; done) rfl)
  rintro ⟨i, s⟩ ⟨hile, hspec, hbd⟩
  simp only [coilsHead]
  simp only at hile hspec hbd
  rcases Nat.lt_or_ge i os.length with hi | hi
  ·
    obtain ⟨c, hc⟩ : ∃ c, os[i]? = some c := ⟨os[i], List.getElem?_eq_getElem hi⟩
    have hlt : (i : Int) < os.length := by omega
    have hdrop : os.drop i = c :: os.drop (i + 1) := by rw [List.drop_eq_getElem_cons hi]; congr 1; rw [List.getElem?_eq_getElem hi] at hc; exact Option.some.inj hc
    rw [hdrop] at hspec
    simp only [coilsS] at hspec
    rcases (show c.kind < 0 ∨ 4 ≤ c.kind ∨ (0 ≤ c.kind ∧ c.kind < 4) by omega) with hk | hk | hk
    ·
      rw [if_pos (.inl hk)] at hspec
      refine Wp.reg_seq (own := fun _ => false) tt_ok ?_
      iterate 1
        refine regv_pure (s1 := ?_) rfl rfl ?_ ?_ ?_
        rotate_left
        · simp [aCos, aCts, aSta, hc, hlt, rowCo, hk]; rfl
        · first | (simp [aCos, aCts, aSta, hc, hlt, rowCo, hk]; done) | (simp [aCos, aCts, aSta, hc, hlt, rowCo, hk]; omega) | (simp [aCos, aCts, aSta, hc, hlt, rowCo, hk, rowsOf]; omega) | skip
      refine regv_nil ?_
      refine Wp.seq ?_
      refine Wp.cond true rfl (fun _ => ?_) (fun h => by cases h)
      refine Wp.skip ?_
      show Wp _ _ _ _
      refine Wp.seq ?_
      refine Wp.block ?_
      refine Wp.reg_seq (own := fun _ => false) tt_ok ?_
      iterate 4
        refine regv_pure (s1 := ?_) rfl rfl ?_ ?_ ?_
        rotate_left
        · simp [aCos, aCts, aSta, hc, hlt, rowCo, hk]; rfl
        · first | (simp [aCos, aCts, aSta, hc, hlt, rowCo, hk]; done) | (simp [aCos, aCts, aSta, hc, hlt, rowCo, hk]; omega) | (simp [aCos, aCts, aSta, hc, hlt, rowCo, hk, rowsOf]; omega) | skip
      refine regv_nil ?_
      refine Wp.seq ?_
      refine Wp.reg_seq (own := fun _ => false) tt_ok ?_
      iterate 4
        refine regv_pure (s1 := ?_) rfl rfl ?_ ?_ ?_
        rotate_left
        · simp [aCos, aCts, aSta, hc, hlt, rowCo, hk]; rfl
        · first | (simp [aCos, aCts, aSta, hc, hlt, rowCo, hk]; done) | (simp [aCos, aCts, aSta, hc, hlt, rowCo, hk]; omega) | (simp [aCos, aCts, aSta, hc, hlt, rowCo, hk, rowsOf]; omega) | skip
      first
        | (refine regv_pure (s1 := ?_) rfl ?_ ?_ ?_ ?_
           rotate_left
           · simp [aCos, aCts, aSta, hc, hlt, rowCo, hk]; done
           · simp [aCos, aCts, aSta, hc, hlt, rowCo, hk]; rfl
           · first | (simp [aCos, aCts, aSta, hc, hlt, rowCo, hk]; done) | (simp [aCos, aCts, aSta, hc, hlt, rowCo, hk]; omega) | (simp [aCos, aCts, aSta, hc, hlt, rowCo, hk, rowsOf]; omega) | skip)
        | (refine regv_skip (s1 := ?_) ?_ ?_ ?_
           rotate_left
           · simp [aCos, aCts, aSta, hc, hlt, rowCo, hk]; done
           · simp [aCos, aCts, aSta, hc, hlt, rowCo, hk]; rfl)
      first
        | (refine regv_pure (s1 := ?_) rfl ?_ ?_ ?_ ?_
           rotate_left
           · simp [aCos, aCts, aSta, hc, hlt, rowCo, hk]; done
           · simp [aCos, aCts, aSta, hc, hlt, rowCo, hk]; rfl
           · first | (simp [aCos, aCts, aSta, hc, hlt, rowCo, hk]; done) | (simp [aCos, aCts, aSta, hc, hlt, rowCo, hk]; omega) | (simp [aCos, aCts, aSta, hc, hlt, rowCo, hk, rowsOf]; omega) | skip)
        | (refine regv_skip (s1 := ?_) ?_ ?_ ?_
           rotate_left
           · simp [aCos, aCts, aSta, hc, hlt, rowCo, hk]; done
           · simp [aCos, aCts, aSta, hc, hlt, rowCo, hk]; rfl)
      first
        | (refine regv_pure (s1 := ?_) rfl ?_ ?_ ?_ ?_
           rotate_left
           · simp [aCos, aCts, aSta, hc, hlt, rowCo, hk]; done
           · simp [aCos, aCts, aSta, hc, hlt, rowCo, hk]; rfl
           · first | (simp [aCos, aCts, aSta, hc, hlt, rowCo, hk]; done) | (simp [aCos, aCts, aSta, hc, hlt, rowCo, hk]; omega) | (simp [aCos, aCts, aSta, hc, hlt, rowCo, hk, rowsOf]; omega) | skip)
        | (refine regv_skip (s1 := ?_) ?_ ?_ ?_
           rotate_left
           · simp [aCos, aCts, aSta, hc, hlt, rowCo, hk]; done
           · simp [aCos, aCts, aSta, hc, hlt, rowCo, hk]; rfl)
      iterate 1
        refine regv_pure (s1 := ?_) rfl rfl ?_ ?_ ?_
        rotate_left
        · simp [aCos, aCts, aSta, hc, hlt, rowCo, hk]; rfl
        · first | (simp [aCos, aCts, aSta, hc, hlt, rowCo, hk]; done) | (simp [aCos, aCts, aSta, hc, hlt, rowCo, hk]; omega) | (simp [aCos, aCts, aSta, hc, hlt, rowCo, hk, rowsOf]; omega) | skip
      refine regv_nil ?_
      refine Wp.cond true rfl (fun _ => ?_) (fun h => by cases h)
      refine Wp.reg_seq (own := fun _ => false) tt_ok ?_
      iterate 3
        refine regv_pure (s1 := ?_) rfl rfl ?_ ?_ ?_
        rotate_left
        · simp [aCos, aCts, aSta, hc, hlt, rowCo, hk]; rfl
        · first | (simp [aCos, aCts, aSta, hc, hlt, rowCo, hk]; done) | (simp [aCos, aCts, aSta, hc, hlt, rowCo, hk]; omega) | (simp [aCos, aCts, aSta, hc, hlt, rowCo, hk, rowsOf]; omega) | skip
      refine regv_nil ?_
      refine Wp.ret (endQ_ret0 rfl ?_)
      rw [hspec]; exact .tups (.cons (.aggs (.cons (.nil _) (.cons (.nil _) (.cons (.nil _) .nil)))) (.cons (.refl _ rfl) .nil))
    ·
      have h0 : ¬ c.kind < 0 := by omega
      rw [if_pos (.inr hk)] at hspec
      refine Wp.reg_seq (own := fun _ => false) tt_ok ?_
      iterate 1
        refine regv_pure (s1 := ?_) rfl rfl ?_ ?_ ?_
        rotate_left
        · simp [aCos, aCts, aSta, hc, hlt, rowCo, hk, h0]; rfl
        · first | (simp [aCos, aCts, aSta, hc, hlt, rowCo, hk, h0]; done) | (simp [aCos, aCts, aSta, hc, hlt, rowCo, hk, h0]; omega) | (simp [aCos, aCts, aSta, hc, hlt, rowCo, hk, h0, rowsOf]; omega) | skip
      refine regv_nil ?_
      refine Wp.seq ?_
      refine Wp.cond true rfl (fun _ => ?_) (fun h => by cases h)
      refine Wp.skip ?_
      show Wp _ _ _ _
      refine Wp.seq ?_
      refine Wp.block ?_
      refine Wp.reg_seq (own := fun _ => false) tt_ok ?_
      iterate 4
        refine regv_pure (s1 := ?_) rfl rfl ?_ ?_ ?_
        rotate_left
        · simp [aCos, aCts, aSta, hc, hlt, rowCo, hk, h0]; rfl
        · first | (simp [aCos, aCts, aSta, hc, hlt, rowCo, hk, h0]; done) | (simp [aCos, aCts, aSta, hc, hlt, rowCo, hk, h0]; omega) | (simp [aCos, aCts, aSta, hc, hlt, rowCo, hk, h0, rowsOf]; omega) | skip
      refine regv_nil ?_
      refine Wp.seq ?_
      refine Wp.reg_seq (own := fun _ => false) tt_ok ?_
      iterate 4
        refine regv_pure (s1 := ?_) rfl rfl ?_ ?_ ?_
        rotate_left
        · simp [aCos, aCts, aSta, hc, hlt, rowCo, hk, h0]; rfl
        · first | (simp [aCos, aCts, aSta, hc, hlt, rowCo, hk, h0]; done) | (simp [aCos, aCts, aSta, hc, hlt, rowCo, hk, h0]; omega) | (simp [aCos, aCts, aSta, hc, hlt, rowCo, hk, h0, rowsOf]; omega) | skip
      first
        | (refine regv_pure (s1 := ?_) rfl ?_ ?_ ?_ ?_
           rotate_left
           · simp [aCos, aCts, aSta, hc, hlt, rowCo, hk, h0]; done
           · simp [aCos, aCts, aSta, hc, hlt, rowCo, hk, h0]; rfl
           · first | (simp [aCos, aCts, aSta, hc, hlt, rowCo, hk, h0]; done) | (simp [aCos, aCts, aSta, hc, hlt, rowCo, hk, h0]; omega) | (simp [aCos, aCts, aSta, hc, hlt, rowCo, hk, h0, rowsOf]; omega) | skip)
        | (refine regv_skip (s1 := ?_) ?_ ?_ ?_
           rotate_left
           · simp [aCos, aCts, aSta, hc, hlt, rowCo, hk, h0]; done
           · simp [aCos, aCts, aSta, hc, hlt, rowCo, hk, h0]; rfl)
      first
        | (refine regv_pure (s1 := ?_) rfl ?_ ?_ ?_ ?_
           rotate_left
           · simp [aCos, aCts, aSta, hc, hlt, rowCo, hk, h0]; done
           · simp [aCos, aCts, aSta, hc, hlt, rowCo, hk, h0]; rfl
           · first | (simp [aCos, aCts, aSta, hc, hlt, rowCo, hk, h0]; done) | (simp [aCos, aCts, aSta, hc, hlt, rowCo, hk, h0]; omega) | (simp [aCos, aCts, aSta, hc, hlt, rowCo, hk, h0, rowsOf]; omega) | skip)
        | (refine regv_skip (s1 := ?_) ?_ ?_ ?_
           rotate_left
           · simp [aCos, aCts, aSta, hc, hlt, rowCo, hk, h0]; done
           · simp [aCos, aCts, aSta, hc, hlt, rowCo, hk, h0]; rfl)
      first
        | (refine regv_pure (s1 := ?_) rfl ?_ ?_ ?_ ?_
           rotate_left
           · simp [aCos, aCts, aSta, hc, hlt, rowCo, hk, h0]; done
           · simp [aCos, aCts, aSta, hc, hlt, rowCo, hk, h0]; rfl
           · first | (simp [aCos, aCts, aSta, hc, hlt, rowCo, hk, h0]; done) | (simp [aCos, aCts, aSta, hc, hlt, rowCo, hk, h0]; omega) | (simp [aCos, aCts, aSta, hc, hlt, rowCo, hk, h0, rowsOf]; omega) | skip)
        | (refine regv_skip (s1 := ?_) ?_ ?_ ?_
           rotate_left
           · simp [aCos, aCts, aSta, hc, hlt, rowCo, hk, h0]; done
           · simp [aCos, aCts, aSta, hc, hlt, rowCo, hk, h0]; rfl)
      iterate 1
        refine regv_pure (s1 := ?_) rfl rfl ?_ ?_ ?_
        rotate_left
        · simp [aCos, aCts, aSta, hc, hlt, rowCo, hk, h0]; rfl
        · first | (simp [aCos, aCts, aSta, hc, hlt, rowCo, hk, h0]; done) | (simp [aCos, aCts, aSta, hc, hlt, rowCo, hk, h0]; omega) | (simp [aCos, aCts, aSta, hc, hlt, rowCo, hk, h0, rowsOf]; omega) | skip
      refine regv_nil ?_
      refine Wp.cond true rfl (fun _ => ?_) (fun h => by cases h)
      refine Wp.reg_seq (own := fun _ => false) tt_ok ?_
      iterate 3
        refine regv_pure (s1 := ?_) rfl rfl ?_ ?_ ?_
        rotate_left
        · simp [aCos, aCts, aSta, hc, hlt, rowCo, hk, h0]; rfl
        · first | (simp [aCos, aCts, aSta, hc, hlt, rowCo, hk, h0]; done) | (simp [aCos, aCts, aSta, hc, hlt, rowCo, hk, h0]; omega) | (simp [aCos, aCts, aSta, hc, hlt, rowCo, hk, h0, rowsOf]; omega) | skip
      refine regv_nil ?_
      refine Wp.ret (endQ_ret0 rfl ?_)
      rw [hspec]; exact .tups (.cons (.aggs (.cons (.nil _) (.cons (.nil _) (.cons (.nil _) .nil)))) (.cons (.refl _ rfl) .nil))
    ·
      have hwrap := wrap_succ i (by omega)
      have h0 : ¬ c.kind < 0 := by omega
      have h4 : ¬ 4 ≤ c.kind := by omega
      have hwr := writes_con c.kind on (by omega) (by omega)
      have hww := write_con s.1 s.2.1 s.2.2 c.sp c.n (wvS c.kind on) hbd.1 hbd.2.1 hbd.2.2
      rw [if_neg (by omega)] at hspec
      by_cases hw : (writeS s.1 s.2.1 s.2.2 c.sp c.n (wvS c.kind on)).2 = 0
      ·
        rw [if_neg (by simp [hw])] at hspec
        have hw' : ((writeS s.1 s.2.1 s.2.2 c.sp c.n (wvS c.kind on)).2 != 0) = false := by simp [hw]
        have hb2 := writeS_bounded hbd c.sp c.n (wvS c.kind on)
        cases hx : wwS c.kind on
        ·
          rw [hx] at hspec
          have hwr2 : Con Try.prog 30 [.int .i64 c.kind, .bool on] (.tup [.bool (wvS c.kind on), .bool false]) [] := by rw [← hx]; exact hwr
          refine Wp.reg_seq (own := fun _ => false) tt_ok ?_
          iterate 1
            refine regv_pure (s1 := ?_) rfl rfl ?_ ?_ ?_
            rotate_left
            · simp [aCos, aCts, aSta, hc, hlt, rowCo, h0, h4, hw', hwrap]; rfl
            · first | (simp [aCos, aCts, aSta, hc, hlt, rowCo, h0, h4, hw', hwrap]; done) | (simp [aCos, aCts, aSta, hc, hlt, rowCo, h0, h4, hw', hwrap]; omega) | (simp [aCos, aCts, aSta, hc, hlt, rowCo, h0, h4, hw', hwrap, rowsOf]; omega) | skip
          refine regv_nil ?_
          refine Wp.seq ?_
          refine Wp.cond true rfl (fun _ => ?_) (fun h => by cases h)
          refine Wp.skip ?_
          show Wp _ _ _ _
          refine Wp.seq ?_
          refine Wp.block ?_
          refine Wp.reg_seq (own := fun _ => false) tt_ok ?_
          iterate 4
            refine regv_pure (s1 := ?_) rfl rfl ?_ ?_ ?_
            rotate_left
            · simp [aCos, aCts, aSta, hc, hlt, rowCo, h0, h4, hw', hwrap]; rfl
            · first | (simp [aCos, aCts, aSta, hc, hlt, rowCo, h0, h4, hw', hwrap]; done) | (simp [aCos, aCts, aSta, hc, hlt, rowCo, h0, h4, hw', hwrap]; omega) | (simp [aCos, aCts, aSta, hc, hlt, rowCo, h0, h4, hw', hwrap, rowsOf]; omega) | skip
          refine regv_nil ?_
          refine Wp.seq ?_
          refine Wp.reg_seq (own := fun _ => false) tt_ok ?_
          iterate 4
            refine regv_pure (s1 := ?_) rfl rfl ?_ ?_ ?_
            rotate_left
            · simp [aCos, aCts, aSta, hc, hlt, rowCo, h0, h4, hw', hwrap]; rfl
            · first | (simp [aCos, aCts, aSta, hc, hlt, rowCo, h0, h4, hw', hwrap]; done) | (simp [aCos, aCts, aSta, hc, hlt, rowCo, h0, h4, hw', hwrap]; omega) | (simp [aCos, aCts, aSta, hc, hlt, rowCo, h0, h4, hw', hwrap, rowsOf]; omega) | skip
          first
            | (refine regv_pure (s1 := ?_) rfl ?_ ?_ ?_ ?_
               rotate_left
               · simp [aCos, aCts, aSta, hc, hlt, rowCo, h0, h4, hw', hwrap]; done
               · simp [aCos, aCts, aSta, hc, hlt, rowCo, h0, h4, hw', hwrap]; rfl
               · first | (simp [aCos, aCts, aSta, hc, hlt, rowCo, h0, h4, hw', hwrap]; done) | (simp [aCos, aCts, aSta, hc, hlt, rowCo, h0, h4, hw', hwrap]; omega) | (simp [aCos, aCts, aSta, hc, hlt, rowCo, h0, h4, hw', hwrap, rowsOf]; omega) | skip)
            | (refine regv_skip (s1 := ?_) ?_ ?_ ?_
               rotate_left
               · simp [aCos, aCts, aSta, hc, hlt, rowCo, h0, h4, hw', hwrap]; done
               · simp [aCos, aCts, aSta, hc, hlt, rowCo, h0, h4, hw', hwrap]; rfl)
          first
            | (refine regv_pure (s1 := ?_) rfl ?_ ?_ ?_ ?_
               rotate_left
               · simp [aCos, aCts, aSta, hc, hlt, rowCo, h0, h4, hw', hwrap]; done
               · simp [aCos, aCts, aSta, hc, hlt, rowCo, h0, h4, hw', hwrap]; rfl
               · first | (simp [aCos, aCts, aSta, hc, hlt, rowCo, h0, h4, hw', hwrap]; done) | (simp [aCos, aCts, aSta, hc, hlt, rowCo, h0, h4, hw', hwrap]; omega) | (simp [aCos, aCts, aSta, hc, hlt, rowCo, h0, h4, hw', hwrap, rowsOf]; omega) | skip)
            | (refine regv_skip (s1 := ?_) ?_ ?_ ?_
               rotate_left
               · simp [aCos, aCts, aSta, hc, hlt, rowCo, h0, h4, hw', hwrap]; done
               · simp [aCos, aCts, aSta, hc, hlt, rowCo, h0, h4, hw', hwrap]; rfl)
          first
            | (refine regv_pure (s1 := ?_) rfl ?_ ?_ ?_ ?_
               rotate_left
               · simp [aCos, aCts, aSta, hc, hlt, rowCo, h0, h4, hw', hwrap]; done
               · simp [aCos, aCts, aSta, hc, hlt, rowCo, h0, h4, hw', hwrap]; rfl
               · first | (simp [aCos, aCts, aSta, hc, hlt, rowCo, h0, h4, hw', hwrap]; done) | (simp [aCos, aCts, aSta, hc, hlt, rowCo, h0, h4, hw', hwrap]; omega) | (simp [aCos, aCts, aSta, hc, hlt, rowCo, h0, h4, hw', hwrap, rowsOf]; omega) | skip)
            | (refine regv_skip (s1 := ?_) ?_ ?_ ?_
               rotate_left
               · simp [aCos, aCts, aSta, hc, hlt, rowCo, h0, h4, hw', hwrap]; done
               · simp [aCos, aCts, aSta, hc, hlt, rowCo, h0, h4, hw', hwrap]; rfl)
          iterate 1
            refine regv_pure (s1 := ?_) rfl rfl ?_ ?_ ?_
            rotate_left
            · simp [aCos, aCts, aSta, hc, hlt, rowCo, h0, h4, hw', hwrap]; rfl
            · first | (simp [aCos, aCts, aSta, hc, hlt, rowCo, h0, h4, hw', hwrap]; done) | (simp [aCos, aCts, aSta, hc, hlt, rowCo, h0, h4, hw', hwrap]; omega) | (simp [aCos, aCts, aSta, hc, hlt, rowCo, h0, h4, hw', hwrap, rowsOf]; omega) | skip
          refine regv_nil ?_
          refine Wp.cond false rfl (fun h => by cases h) (fun _ => ?_)
          refine Wp.skip ?_
          show Wp _ _ _ _
          refine Wp.reg_seq (own := fun _ => false) tt_ok ?_
          iterate 3
            refine regv_pure (s1 := ?_) rfl rfl ?_ ?_ ?_
            rotate_left
            · simp [aCos, aCts, aSta, hc, hlt, rowCo, h0, h4, hw', hwrap]; rfl
            · first | (simp [aCos, aCts, aSta, hc, hlt, rowCo, h0, h4, hw', hwrap]; done) | (simp [aCos, aCts, aSta, hc, hlt, rowCo, h0, h4, hw', hwrap]; omega) | (simp [aCos, aCts, aSta, hc, hlt, rowCo, h0, h4, hw', hwrap, rowsOf]; omega) | skip
          refine regv_call (s' := ?_) (hwr2) rfl rfl rfl rfl rfl ?_ ?_ ?_ ?_
          rotate_left 1
          · first | (simp [aCos, aCts, aSta, hc, hlt, rowCo, h0, h4, hw', hwrap]; done) | (simp [aCos, aCts, aSta, hc, hlt, rowCo, h0, h4, hw', hwrap]; omega) | (simp [aCos, aCts, aSta, hc, hlt, rowCo, h0, h4, hw', hwrap, rowsOf]; omega) | skip
          · simp
          · simp [aCos, aCts, aSta, hc, hlt, rowCo, h0, h4, hw', hwrap]; rfl
          iterate 5
            refine regv_pure (s1 := ?_) rfl rfl ?_ ?_ ?_
            rotate_left
            · simp [aCos, aCts, aSta, hc, hlt, rowCo, h0, h4, hw', hwrap]; rfl
            · first | (simp [aCos, aCts, aSta, hc, hlt, rowCo, h0, h4, hw', hwrap]; done) | (simp [aCos, aCts, aSta, hc, hlt, rowCo, h0, h4, hw', hwrap]; omega) | (simp [aCos, aCts, aSta, hc, hlt, rowCo, h0, h4, hw', hwrap, rowsOf]; omega) | skip
          refine regv_nil ?_
          refine Wp.reg_seq (own := fun _ => false) tt_ok ?_
          iterate 4
            refine regv_pure (s1 := ?_) rfl rfl ?_ ?_ ?_
            rotate_left
            · simp [aCos, aCts, aSta, hc, hlt, rowCo, h0, h4, hw', hwrap]; rfl
            · first | (simp [aCos, aCts, aSta, hc, hlt, rowCo, h0, h4, hw', hwrap]; done) | (simp [aCos, aCts, aSta, hc, hlt, rowCo, h0, h4, hw', hwrap]; omega) | (simp [aCos, aCts, aSta, hc, hlt, rowCo, h0, h4, hw', hwrap, rowsOf]; omega) | skip
          refine regv_call (s' := ?_) (hww) rfl rfl rfl rfl rfl ?_ ?_ ?_ ?_
          rotate_left 1
          · first | (simp [aCos, aCts, aSta, hc, hlt, rowCo, h0, h4, hw', hwrap]; done) | (simp [aCos, aCts, aSta, hc, hlt, rowCo, h0, h4, hw', hwrap]; omega) | (simp [aCos, aCts, aSta, hc, hlt, rowCo, h0, h4, hw', hwrap, rowsOf]; omega) | skip
          · simp
          · simp [aCos, aCts, aSta, hc, hlt, rowCo, h0, h4, hw', hwrap]; rfl
          iterate 6
            refine regv_pure (s1 := ?_) rfl rfl ?_ ?_ ?_
            rotate_left
            · simp [aCos, aCts, aSta, hc, hlt, rowCo, h0, h4, hw', hwrap]; rfl
            · first | (simp [aCos, aCts, aSta, hc, hlt, rowCo, h0, h4, hw', hwrap]; done) | (simp [aCos, aCts, aSta, hc, hlt, rowCo, h0, h4, hw', hwrap]; omega) | (simp [aCos, aCts, aSta, hc, hlt, rowCo, h0, h4, hw', hwrap, rowsOf]; omega) | skip
          refine regv_nil ?_
          refine Wp.seq ?_
          refine Wp.reg_seq (own := fun _ => false) tt_ok ?_
          iterate 2
            refine regv_pure (s1 := ?_) rfl rfl ?_ ?_ ?_
            rotate_left
            · simp [aCos, aCts, aSta, hc, hlt, rowCo, h0, h4, hw', hwrap]; rfl
            · first | (simp [aCos, aCts, aSta, hc, hlt, rowCo, h0, h4, hw', hwrap]; done) | (simp [aCos, aCts, aSta, hc, hlt, rowCo, h0, h4, hw', hwrap]; omega) | (simp [aCos, aCts, aSta, hc, hlt, rowCo, h0, h4, hw', hwrap, rowsOf]; omega) | skip
          refine regv_nil ?_
          refine Wp.cond false rfl (fun h => by cases h) (fun _ => ?_)
          refine Wp.skip ?_
          show Wp _ _ _ _
          refine Wp.reg_seq (own := fun _ => false) tt_ok ?_
          iterate 1
            refine regv_pure (s1 := ?_) rfl rfl ?_ ?_ ?_
            rotate_left
            · simp [aCos, aCts, aSta, hc, hlt, rowCo, h0, h4, hw', hwrap]; rfl
            · first | (simp [aCos, aCts, aSta, hc, hlt, rowCo, h0, h4, hw', hwrap]; done) | (simp [aCos, aCts, aSta, hc, hlt, rowCo, h0, h4, hw', hwrap]; omega) | (simp [aCos, aCts, aSta, hc, hlt, rowCo, h0, h4, hw', hwrap, rowsOf]; omega) | skip
          refine regv_nil ?_
          refine Wp.cond false rfl (fun h => by cases h) (fun _ => ?_)
          refine Wp.skip ?_
          show Wp _ _ _ _
          refine Wp.reg (own := fun _ => false) tt_ok ?_
          iterate 2
            refine regv_pure (s1 := ?_) rfl rfl ?_ ?_ ?_
            rotate_left
            · simp [aCos, aCts, aSta, hc, hlt, rowCo, h0, h4, hw', hwrap]; rfl
            · first | (simp [aCos, aCts, aSta, hc, hlt, rowCo, h0, h4, hw', hwrap]; done) | (simp [aCos, aCts, aSta, hc, hlt, rowCo, h0, h4, hw', hwrap]; omega) | (simp [aCos, aCts, aSta, hc, hlt, rowCo, h0, h4, hw', hwrap, rowsOf]; omega) | skip
          refine regv_nil ?_
          refine loopQ_next (i + 1, s) ⟨by simp only; omega, hspec, hbd⟩ (by simp only; omega) ?_
          refine Reloc.mk2 [some 0, some 1] rfl rfl rfl (by decide) ?_ ?_
          · repeat' first | exact objsLe_nil | refine objsLe_cons ?_ ?_
            all_goals first
              | (refine ObjLe.var' rfl rfl ?_ rfl
                 repeat' first | exact All2.nil | refine All2.cons ?_ ?_
                 all_goals first | (exact AvLe.refl _ rfl) | (exact AvLe.hptr _ _ _ _ rfl) | (exact AvLe.sl _ _ _ _ rfl) | (exact AvLe.sl' rfl (by simp) (by simp)) | (exact AvLe.mp _ _ rfl) | (exact AvLe.nil _) | (exact AvLe.ghost _ rfl) | (exact AvLe.eq (by simp [aCos, aCts, aSta, hc, hlt, rowCo, h0, h4, hw', hwrap]; done) rfl))
              | (exact ObjLe.map' rfl rfl)
              | (exact ObjLe.ghost' rfl (by decide))
              | (exact ObjLe.arr' rfl rfl (by first | (simp; done) | (simp; omega)) (fun _ _ => rfl))
          · repeat' first | exact chLe_nil | refine chLe_cons ?_ ?_
            all_goals first
              | (exact AvLe.refl _ rfl)
              | (exact AvLe.hptr _ _ _ _ rfl)
              | (exact AvLe.sl _ _ _ _ rfl)
              | (exact AvLe.sl' rfl (by simp) (by simp))
              | (exact AvLe.mp _ _ rfl)
              | (exact AvLe.nil _)
              | (exact AvLe.ghost _ rfl)
              | (exact AvLe.eq (by simp [aCos, aCts, aSta, hc, hlt, rowCo, h0, h4, hw', hwrap]; done) rfl)
        ·
          rw [hx] at hspec
          have hwr2 : Con Try.prog 30 [.int .i64 c.kind, .bool on] (.tup [.bool (wvS c.kind on), .bool true]) [] := by rw [← hx]; exact hwr
          refine Wp.reg_seq (own := fun _ => false) tt_ok ?_
          iterate 1
            refine regv_pure (s1 := ?_) rfl rfl ?_ ?_ ?_
            rotate_left
            · simp [aCos, aCts, aSta, hc, hlt, rowCo, h0, h4, hw', hwrap]; rfl
            · first | (simp [aCos, aCts, aSta, hc, hlt, rowCo, h0, h4, hw', hwrap]; done) | (simp [aCos, aCts, aSta, hc, hlt, rowCo, h0, h4, hw', hwrap]; omega) | (simp [aCos, aCts, aSta, hc, hlt, rowCo, h0, h4, hw', hwrap, rowsOf]; omega) | skip
          refine regv_nil ?_
          refine Wp.seq ?_
          refine Wp.cond true rfl (fun _ => ?_) (fun h => by cases h)
          refine Wp.skip ?_
          show Wp _ _ _ _
          refine Wp.seq ?_
          refine Wp.block ?_
          refine Wp.reg_seq (own := fun _ => false) tt_ok ?_
          iterate 4
            refine regv_pure (s1 := ?_) rfl rfl ?_ ?_ ?_
            rotate_left
            · simp [aCos, aCts, aSta, hc, hlt, rowCo, h0, h4, hw', hwrap]; rfl
            · first | (simp [aCos, aCts, aSta, hc, hlt, rowCo, h0, h4, hw', hwrap]; done) | (simp [aCos, aCts, aSta, hc, hlt, rowCo, h0, h4, hw', hwrap]; omega) | (simp [aCos, aCts, aSta, hc, hlt, rowCo, h0, h4, hw', hwrap, rowsOf]; omega) | skip
          refine regv_nil ?_
          refine Wp.seq ?_
          refine Wp.reg_seq (own := fun _ => false) tt_ok ?_
          iterate 4
            refine regv_pure (s1 := ?_) rfl rfl ?_ ?_ ?_
            rotate_left
            · simp [aCos, aCts, aSta, hc, hlt, rowCo, h0, h4, hw', hwrap]; rfl
            · first | (simp [aCos, aCts, aSta, hc, hlt, rowCo, h0, h4, hw', hwrap]; done) | (simp [aCos, aCts, aSta, hc, hlt, rowCo, h0, h4, hw', hwrap]; omega) | (simp [aCos, aCts, aSta, hc, hlt, rowCo, h0, h4, hw', hwrap, rowsOf]; omega) | skip
          first
            | (refine regv_pure (s1 := ?_) rfl ?_ ?_ ?_ ?_
               rotate_left
               · simp [aCos, aCts, aSta, hc, hlt, rowCo, h0, h4, hw', hwrap]; done
               · simp [aCos, aCts, aSta, hc, hlt, rowCo, h0, h4, hw', hwrap]; rfl
               · first | (simp [aCos, aCts, aSta, hc, hlt, rowCo, h0, h4, hw', hwrap]; done) | (simp [aCos, aCts, aSta, hc, hlt, rowCo, h0, h4, hw', hwrap]; omega) | (simp [aCos, aCts, aSta, hc, hlt, rowCo, h0, h4, hw', hwrap, rowsOf]; omega) | skip)
            | (refine regv_skip (s1 := ?_) ?_ ?_ ?_
               rotate_left
               · simp [aCos, aCts, aSta, hc, hlt, rowCo, h0, h4, hw', hwrap]; done
               · simp [aCos, aCts, aSta, hc, hlt, rowCo, h0, h4, hw', hwrap]; rfl)
          first
            | (refine regv_pure (s1 := ?_) rfl ?_ ?_ ?_ ?_
               rotate_left
               · simp [aCos, aCts, aSta, hc, hlt, rowCo, h0, h4, hw', hwrap]; done
               · simp [aCos, aCts, aSta, hc, hlt, rowCo, h0, h4, hw', hwrap]; rfl
               · first | (simp [aCos, aCts, aSta, hc, hlt, rowCo, h0, h4, hw', hwrap]; done) | (simp [aCos, aCts, aSta, hc, hlt, rowCo, h0, h4, hw', hwrap]; omega) | (simp [aCos, aCts, aSta, hc, hlt, rowCo, h0, h4, hw', hwrap, rowsOf]; omega) | skip)
            | (refine regv_skip (s1 := ?_) ?_ ?_ ?_
               rotate_left
               · simp [aCos, aCts, aSta, hc, hlt, rowCo, h0, h4, hw', hwrap]; done
               · simp [aCos, aCts, aSta, hc, hlt, rowCo, h0, h4, hw', hwrap]; rfl)
          first
            | (refine regv_pure (s1 := ?_) rfl ?_ ?_ ?_ ?_
               rotate_left
               · simp [aCos, aCts, aSta, hc, hlt, rowCo, h0, h4, hw', hwrap]; done
               · simp [aCos, aCts, aSta, hc, hlt, rowCo, h0, h4, hw', hwrap]; rfl
               · first | (simp [aCos, aCts, aSta, hc, hlt, rowCo, h0, h4, hw', hwrap]; done) | (simp [aCos, aCts, aSta, hc, hlt, rowCo, h0, h4, hw', hwrap]; omega) | (simp [aCos, aCts, aSta, hc, hlt, rowCo, h0, h4, hw', hwrap, rowsOf]; omega) | skip)
            | (refine regv_skip (s1 := ?_) ?_ ?_ ?_
               rotate_left
               · simp [aCos, aCts, aSta, hc, hlt, rowCo, h0, h4, hw', hwrap]; done
               · simp [aCos, aCts, aSta, hc, hlt, rowCo, h0, h4, hw', hwrap]; rfl)
          iterate 1
            refine regv_pure (s1 := ?_) rfl rfl ?_ ?_ ?_
            rotate_left
            · simp [aCos, aCts, aSta, hc, hlt, rowCo, h0, h4, hw', hwrap]; rfl
            · first | (simp [aCos, aCts, aSta, hc, hlt, rowCo, h0, h4, hw', hwrap]; done) | (simp [aCos, aCts, aSta, hc, hlt, rowCo, h0, h4, hw', hwrap]; omega) | (simp [aCos, aCts, aSta, hc, hlt, rowCo, h0, h4, hw', hwrap, rowsOf]; omega) | skip
          refine regv_nil ?_
          refine Wp.cond false rfl (fun h => by cases h) (fun _ => ?_)
          refine Wp.skip ?_
          show Wp _ _ _ _
          refine Wp.reg_seq (own := fun _ => false) tt_ok ?_
          iterate 3
            refine regv_pure (s1 := ?_) rfl rfl ?_ ?_ ?_
            rotate_left
            · simp [aCos, aCts, aSta, hc, hlt, rowCo, h0, h4, hw', hwrap]; rfl
            · first | (simp [aCos, aCts, aSta, hc, hlt, rowCo, h0, h4, hw', hwrap]; done) | (simp [aCos, aCts, aSta, hc, hlt, rowCo, h0, h4, hw', hwrap]; omega) | (simp [aCos, aCts, aSta, hc, hlt, rowCo, h0, h4, hw', hwrap, rowsOf]; omega) | skip
          refine regv_call (s' := ?_) (hwr2) rfl rfl rfl rfl rfl ?_ ?_ ?_ ?_
          rotate_left 1
          · first | (simp [aCos, aCts, aSta, hc, hlt, rowCo, h0, h4, hw', hwrap]; done) | (simp [aCos, aCts, aSta, hc, hlt, rowCo, h0, h4, hw', hwrap]; omega) | (simp [aCos, aCts, aSta, hc, hlt, rowCo, h0, h4, hw', hwrap, rowsOf]; omega) | skip
          · simp
          · simp [aCos, aCts, aSta, hc, hlt, rowCo, h0, h4, hw', hwrap]; rfl
          iterate 5
            refine regv_pure (s1 := ?_) rfl rfl ?_ ?_ ?_
            rotate_left
            · simp [aCos, aCts, aSta, hc, hlt, rowCo, h0, h4, hw', hwrap]; rfl
            · first | (simp [aCos, aCts, aSta, hc, hlt, rowCo, h0, h4, hw', hwrap]; done) | (simp [aCos, aCts, aSta, hc, hlt, rowCo, h0, h4, hw', hwrap]; omega) | (simp [aCos, aCts, aSta, hc, hlt, rowCo, h0, h4, hw', hwrap, rowsOf]; omega) | skip
          refine regv_nil ?_
          refine Wp.reg_seq (own := fun _ => false) tt_ok ?_
          iterate 4
            refine regv_pure (s1 := ?_) rfl rfl ?_ ?_ ?_
            rotate_left
            · simp [aCos, aCts, aSta, hc, hlt, rowCo, h0, h4, hw', hwrap]; rfl
            · first | (simp [aCos, aCts, aSta, hc, hlt, rowCo, h0, h4, hw', hwrap]; done) | (simp [aCos, aCts, aSta, hc, hlt, rowCo, h0, h4, hw', hwrap]; omega) | (simp [aCos, aCts, aSta, hc, hlt, rowCo, h0, h4, hw', hwrap, rowsOf]; omega) | skip
          refine regv_call (s' := ?_) (hww) rfl rfl rfl rfl rfl ?_ ?_ ?_ ?_
          rotate_left 1
          · first | (simp [aCos, aCts, aSta, hc, hlt, rowCo, h0, h4, hw', hwrap]; done) | (simp [aCos, aCts, aSta, hc, hlt, rowCo, h0, h4, hw', hwrap]; omega) | (simp [aCos, aCts, aSta, hc, hlt, rowCo, h0, h4, hw', hwrap, rowsOf]; omega) | skip
          · simp
          · simp [aCos, aCts, aSta, hc, hlt, rowCo, h0, h4, hw', hwrap]; rfl
          iterate 6
            refine regv_pure (s1 := ?_) rfl rfl ?_ ?_ ?_
            rotate_left
            · simp [aCos, aCts, aSta, hc, hlt, rowCo, h0, h4, hw', hwrap]; rfl
            · first | (simp [aCos, aCts, aSta, hc, hlt, rowCo, h0, h4, hw', hwrap]; done) | (simp [aCos, aCts, aSta, hc, hlt, rowCo, h0, h4, hw', hwrap]; omega) | (simp [aCos, aCts, aSta, hc, hlt, rowCo, h0, h4, hw', hwrap, rowsOf]; omega) | skip
          refine regv_nil ?_
          refine Wp.seq ?_
          refine Wp.reg_seq (own := fun _ => false) tt_ok ?_
          iterate 2
            refine regv_pure (s1 := ?_) rfl rfl ?_ ?_ ?_
            rotate_left
            · simp [aCos, aCts, aSta, hc, hlt, rowCo, h0, h4, hw', hwrap]; rfl
            · first | (simp [aCos, aCts, aSta, hc, hlt, rowCo, h0, h4, hw', hwrap]; done) | (simp [aCos, aCts, aSta, hc, hlt, rowCo, h0, h4, hw', hwrap]; omega) | (simp [aCos, aCts, aSta, hc, hlt, rowCo, h0, h4, hw', hwrap, rowsOf]; omega) | skip
          refine regv_nil ?_
          refine Wp.cond false rfl (fun h => by cases h) (fun _ => ?_)
          refine Wp.skip ?_
          show Wp _ _ _ _
          refine Wp.reg_seq (own := fun _ => false) tt_ok ?_
          iterate 1
            refine regv_pure (s1 := ?_) rfl rfl ?_ ?_ ?_
            rotate_left
            · simp [aCos, aCts, aSta, hc, hlt, rowCo, h0, h4, hw', hwrap]; rfl
            · first | (simp [aCos, aCts, aSta, hc, hlt, rowCo, h0, h4, hw', hwrap]; done) | (simp [aCos, aCts, aSta, hc, hlt, rowCo, h0, h4, hw', hwrap]; omega) | (simp [aCos, aCts, aSta, hc, hlt, rowCo, h0, h4, hw', hwrap, rowsOf]; omega) | skip
          refine regv_nil ?_
          refine Wp.cond true rfl (fun _ => ?_) (fun h => by cases h)
          refine Wp.reg (own := fun _ => false) tt_ok ?_
          iterate 2
            refine regv_pure (s1 := ?_) rfl rfl ?_ ?_ ?_
            rotate_left
            · simp [aCos, aCts, aSta, hc, hlt, rowCo, h0, h4, hw', hwrap]; rfl
            · first | (simp [aCos, aCts, aSta, hc, hlt, rowCo, h0, h4, hw', hwrap]; done) | (simp [aCos, aCts, aSta, hc, hlt, rowCo, h0, h4, hw', hwrap]; omega) | (simp [aCos, aCts, aSta, hc, hlt, rowCo, h0, h4, hw', hwrap, rowsOf]; omega) | skip
          refine regv_nil ?_
          show Wp _ _ _ _
          refine Wp.reg (own := fun _ => false) tt_ok ?_
          iterate 2
            refine regv_pure (s1 := ?_) rfl rfl ?_ ?_ ?_
            rotate_left
            · simp [aCos, aCts, aSta, hc, hlt, rowCo, h0, h4, hw', hwrap]; rfl
            · first | (simp [aCos, aCts, aSta, hc, hlt, rowCo, h0, h4, hw', hwrap]; done) | (simp [aCos, aCts, aSta, hc, hlt, rowCo, h0, h4, hw', hwrap]; omega) | (simp [aCos, aCts, aSta, hc, hlt, rowCo, h0, h4, hw', hwrap, rowsOf]; omega) | skip
          refine regv_nil ?_
          refine loopQ_next (i + 1, (writeS s.1 s.2.1 s.2.2 c.sp c.n (wvS c.kind on)).1) ⟨by simp only; omega, hspec, hb2⟩ (by simp only; omega) ?_
          refine Reloc.mk2 [some 0, some 1] rfl rfl rfl (by decide) ?_ ?_
          · repeat' first | exact objsLe_nil | refine objsLe_cons ?_ ?_
            all_goals first
              | (refine ObjLe.var' rfl rfl ?_ rfl
                 repeat' first | exact All2.nil | refine All2.cons ?_ ?_
                 all_goals first | (exact AvLe.refl _ rfl) | (exact AvLe.hptr _ _ _ _ rfl) | (exact AvLe.sl _ _ _ _ rfl) | (exact AvLe.sl' rfl (by simp) (by simp)) | (exact AvLe.mp _ _ rfl) | (exact AvLe.nil _) | (exact AvLe.ghost _ rfl) | (exact AvLe.eq (by simp [aCos, aCts, aSta, hc, hlt, rowCo, h0, h4, hw', hwrap]; done) rfl))
              | (exact ObjLe.map' rfl rfl)
              | (exact ObjLe.ghost' rfl (by decide))
              | (exact ObjLe.arr' rfl rfl (by first | (simp; done) | (simp; omega)) (fun _ _ => rfl))
          · repeat' first | exact chLe_nil | refine chLe_cons ?_ ?_
            all_goals first
              | (exact AvLe.refl _ rfl)
              | (exact AvLe.hptr _ _ _ _ rfl)
              | (exact AvLe.sl _ _ _ _ rfl)
              | (exact AvLe.sl' rfl (by simp) (by simp))
              | (exact AvLe.mp _ _ rfl)
              | (exact AvLe.nil _)
              | (exact AvLe.ghost _ rfl)
              | (exact AvLe.eq (by simp [aCos, aCts, aSta, hc, hlt, rowCo, h0, h4, hw', hwrap]; done) rfl)
      ·
        rw [if_pos hw] at hspec
        have hw' : ((writeS s.1 s.2.1 s.2.2 c.sp c.n (wvS c.kind on)).2 != 0) = true := by simp [hw]
        have hwr2 : Con Try.prog 30 [.int .i64 c.kind, .bool on] (.tup [.bool (wvS c.kind on), .bool (wwS c.kind on)]) [] := hwr
        refine Wp.reg_seq (own := fun _ => false) tt_ok ?_
        iterate 1
          refine regv_pure (s1 := ?_) rfl rfl ?_ ?_ ?_
          rotate_left
          · simp [aCos, aCts, aSta, hc, hlt, rowCo, h0, h4, hw', hwrap]; rfl
          · first | (simp [aCos, aCts, aSta, hc, hlt, rowCo, h0, h4, hw', hwrap]; done) | (simp [aCos, aCts, aSta, hc, hlt, rowCo, h0, h4, hw', hwrap]; omega) | (simp [aCos, aCts, aSta, hc, hlt, rowCo, h0, h4, hw', hwrap, rowsOf]; omega) | skip
        refine regv_nil ?_
        refine Wp.seq ?_
        refine Wp.cond true rfl (fun _ => ?_) (fun h => by cases h)
        refine Wp.skip ?_
        show Wp _ _ _ _
        refine Wp.seq ?_
        refine Wp.block ?_
        refine Wp.reg_seq (own := fun _ => false) tt_ok ?_
        iterate 4
          refine regv_pure (s1 := ?_) rfl rfl ?_ ?_ ?_
          rotate_left
          · simp [aCos, aCts, aSta, hc, hlt, rowCo, h0, h4, hw', hwrap]; rfl
          · first | (simp [aCos, aCts, aSta, hc, hlt, rowCo, h0, h4, hw', hwrap]; done) | (simp [aCos, aCts, aSta, hc, hlt, rowCo, h0, h4, hw', hwrap]; omega) | (simp [aCos, aCts, aSta, hc, hlt, rowCo, h0, h4, hw', hwrap, rowsOf]; omega) | skip
        refine regv_nil ?_
        refine Wp.seq ?_
        refine Wp.reg_seq (own := fun _ => false) tt_ok ?_
        iterate 4
          refine regv_pure (s1 := ?_) rfl rfl ?_ ?_ ?_
          rotate_left
          · simp [aCos, aCts, aSta, hc, hlt, rowCo, h0, h4, hw', hwrap]; rfl
          · first | (simp [aCos, aCts, aSta, hc, hlt, rowCo, h0, h4, hw', hwrap]; done) | (simp [aCos, aCts, aSta, hc, hlt, rowCo, h0, h4, hw', hwrap]; omega) | (simp [aCos, aCts, aSta, hc, hlt, rowCo, h0, h4, hw', hwrap, rowsOf]; omega) | skip
        first
          | (refine regv_pure (s1 := ?_) rfl ?_ ?_ ?_ ?_
             rotate_left
             · simp [aCos, aCts, aSta, hc, hlt, rowCo, h0, h4, hw', hwrap]; done
             · simp [aCos, aCts, aSta, hc, hlt, rowCo, h0, h4, hw', hwrap]; rfl
             · first | (simp [aCos, aCts, aSta, hc, hlt, rowCo, h0, h4, hw', hwrap]; done) | (simp [aCos, aCts, aSta, hc, hlt, rowCo, h0, h4, hw', hwrap]; omega) | (simp [aCos, aCts, aSta, hc, hlt, rowCo, h0, h4, hw', hwrap, rowsOf]; omega) | skip)
          | (refine regv_skip (s1 := ?_) ?_ ?_ ?_
             rotate_left
             · simp [aCos, aCts, aSta, hc, hlt, rowCo, h0, h4, hw', hwrap]; done
             · simp [aCos, aCts, aSta, hc, hlt, rowCo, h0, h4, hw', hwrap]; rfl)
        first
          | (refine regv_pure (s1 := ?_) rfl ?_ ?_ ?_ ?_
             rotate_left
             · simp [aCos, aCts, aSta, hc, hlt, rowCo, h0, h4, hw', hwrap]; done
             · simp [aCos, aCts, aSta, hc, hlt, rowCo, h0, h4, hw', hwrap]; rfl
             · first | (simp [aCos, aCts, aSta, hc, hlt, rowCo, h0, h4, hw', hwrap]; done) | (simp [aCos, aCts, aSta, hc, hlt, rowCo, h0, h4, hw', hwrap]; omega) | (simp [aCos, aCts, aSta, hc, hlt, rowCo, h0, h4, hw', hwrap, rowsOf]; omega) | skip)
          | (refine regv_skip (s1 := ?_) ?_ ?_ ?_
             rotate_left
             · simp [aCos, aCts, aSta, hc, hlt, rowCo, h0, h4, hw', hwrap]; done
             · simp [aCos, aCts, aSta, hc, hlt, rowCo, h0, h4, hw', hwrap]; rfl)
        first
          | (refine regv_pure (s1 := ?_) rfl ?_ ?_ ?_ ?_
             rotate_left
             · simp [aCos, aCts, aSta, hc, hlt, rowCo, h0, h4, hw', hwrap]; done
             · simp [aCos, aCts, aSta, hc, hlt, rowCo, h0, h4, hw', hwrap]; rfl
             · first | (simp [aCos, aCts, aSta, hc, hlt, rowCo, h0, h4, hw', hwrap]; done) | (simp [aCos, aCts, aSta, hc, hlt, rowCo, h0, h4, hw', hwrap]; omega) | (simp [aCos, aCts, aSta, hc, hlt, rowCo, h0, h4, hw', hwrap, rowsOf]; omega) | skip)
          | (refine regv_skip (s1 := ?_) ?_ ?_ ?_
             rotate_left
             · simp [aCos, aCts, aSta, hc, hlt, rowCo, h0, h4, hw', hwrap]; done
             · simp [aCos, aCts, aSta, hc, hlt, rowCo, h0, h4, hw', hwrap]; rfl)
        iterate 1
          refine regv_pure (s1 := ?_) rfl rfl ?_ ?_ ?_
          rotate_left
          · simp [aCos, aCts, aSta, hc, hlt, rowCo, h0, h4, hw', hwrap]; rfl
          · first | (simp [aCos, aCts, aSta, hc, hlt, rowCo, h0, h4, hw', hwrap]; done) | (simp [aCos, aCts, aSta, hc, hlt, rowCo, h0, h4, hw', hwrap]; omega) | (simp [aCos, aCts, aSta, hc, hlt, rowCo, h0, h4, hw', hwrap, rowsOf]; omega) | skip
        refine regv_nil ?_
        refine Wp.cond false rfl (fun h => by cases h) (fun _ => ?_)
        refine Wp.skip ?_
        show Wp _ _ _ _
        refine Wp.reg_seq (own := fun _ => false) tt_ok ?_
        iterate 3
          refine regv_pure (s1 := ?_) rfl rfl ?_ ?_ ?_
          rotate_left
          · simp [aCos, aCts, aSta, hc, hlt, rowCo, h0, h4, hw', hwrap]; rfl
          · first | (simp [aCos, aCts, aSta, hc, hlt, rowCo, h0, h4, hw', hwrap]; done) | (simp [aCos, aCts, aSta, hc, hlt, rowCo, h0, h4, hw', hwrap]; omega) | (simp [aCos, aCts, aSta, hc, hlt, rowCo, h0, h4, hw', hwrap, rowsOf]; omega) | skip
        refine regv_call (s' := ?_) (hwr2) rfl rfl rfl rfl rfl ?_ ?_ ?_ ?_
        rotate_left 1
        · first | (simp [aCos, aCts, aSta, hc, hlt, rowCo, h0, h4, hw', hwrap]; done) | (simp [aCos, aCts, aSta, hc, hlt, rowCo, h0, h4, hw', hwrap]; omega) | (simp [aCos, aCts, aSta, hc, hlt, rowCo, h0, h4, hw', hwrap, rowsOf]; omega) | skip
        · simp
        · simp [aCos, aCts, aSta, hc, hlt, rowCo, h0, h4, hw', hwrap]; rfl
        iterate 5
          refine regv_pure (s1 := ?_) rfl rfl ?_ ?_ ?_
          rotate_left
          · simp [aCos, aCts, aSta, hc, hlt, rowCo, h0, h4, hw', hwrap]; rfl
          · first | (simp [aCos, aCts, aSta, hc, hlt, rowCo, h0, h4, hw', hwrap]; done) | (simp [aCos, aCts, aSta, hc, hlt, rowCo, h0, h4, hw', hwrap]; omega) | (simp [aCos, aCts, aSta, hc, hlt, rowCo, h0, h4, hw', hwrap, rowsOf]; omega) | skip
        refine regv_nil ?_
        refine Wp.reg_seq (own := fun _ => false) tt_ok ?_
        iterate 4
          refine regv_pure (s1 := ?_) rfl rfl ?_ ?_ ?_
          rotate_left
          · simp [aCos, aCts, aSta, hc, hlt, rowCo, h0, h4, hw', hwrap]; rfl
          · first | (simp [aCos, aCts, aSta, hc, hlt, rowCo, h0, h4, hw', hwrap]; done) | (simp [aCos, aCts, aSta, hc, hlt, rowCo, h0, h4, hw', hwrap]; omega) | (simp [aCos, aCts, aSta, hc, hlt, rowCo, h0, h4, hw', hwrap, rowsOf]; omega) | skip
        refine regv_call (s' := ?_) (hww) rfl rfl rfl rfl rfl ?_ ?_ ?_ ?_
        rotate_left 1
        · first | (simp [aCos, aCts, aSta, hc, hlt, rowCo, h0, h4, hw', hwrap]; done) | (simp [aCos, aCts, aSta, hc, hlt, rowCo, h0, h4, hw', hwrap]; omega) | (simp [aCos, aCts, aSta, hc, hlt, rowCo, h0, h4, hw', hwrap, rowsOf]; omega) | skip
        · simp
        · simp [aCos, aCts, aSta, hc, hlt, rowCo, h0, h4, hw', hwrap]; rfl
        iterate 6
          refine regv_pure (s1 := ?_) rfl rfl ?_ ?_ ?_
          rotate_left
          · simp [aCos, aCts, aSta, hc, hlt, rowCo, h0, h4, hw', hwrap]; rfl
          · first | (simp [aCos, aCts, aSta, hc, hlt, rowCo, h0, h4, hw', hwrap]; done) | (simp [aCos, aCts, aSta, hc, hlt, rowCo, h0, h4, hw', hwrap]; omega) | (simp [aCos, aCts, aSta, hc, hlt, rowCo, h0, h4, hw', hwrap, rowsOf]; omega) | skip
        refine regv_nil ?_
        refine Wp.seq ?_
        refine Wp.reg_seq (own := fun _ => false) tt_ok ?_
        iterate 2
          refine regv_pure (s1 := ?_) rfl rfl ?_ ?_ ?_
          rotate_left
          · simp [aCos, aCts, aSta, hc, hlt, rowCo, h0, h4, hw', hwrap]; rfl
          · first | (simp [aCos, aCts, aSta, hc, hlt, rowCo, h0, h4, hw', hwrap]; done) | (simp [aCos, aCts, aSta, hc, hlt, rowCo, h0, h4, hw', hwrap]; omega) | (simp [aCos, aCts, aSta, hc, hlt, rowCo, h0, h4, hw', hwrap, rowsOf]; omega) | skip
        refine regv_nil ?_
        refine Wp.cond true rfl (fun _ => ?_) (fun h => by cases h)
        refine Wp.reg_seq (own := fun _ => false) tt_ok ?_
        iterate 4
          refine regv_pure (s1 := ?_) rfl rfl ?_ ?_ ?_
          rotate_left
          · simp [aCos, aCts, aSta, hc, hlt, rowCo, h0, h4, hw', hwrap]; rfl
          · first | (simp [aCos, aCts, aSta, hc, hlt, rowCo, h0, h4, hw', hwrap]; done) | (simp [aCos, aCts, aSta, hc, hlt, rowCo, h0, h4, hw', hwrap]; omega) | (simp [aCos, aCts, aSta, hc, hlt, rowCo, h0, h4, hw', hwrap, rowsOf]; omega) | skip
        refine regv_nil ?_
        refine Wp.ret (endQ_ret0 rfl ?_)
        rw [hspec]; exact .tups (.cons (.aggs (.cons (.nil _) (.cons (.nil _) (.cons (.nil _) .nil)))) (.cons (.refl _ rfl) .nil))
  ·
    have hge : ¬ (i : Int) < os.length := by omega
    have hdrop : os.drop i = [] := List.drop_eq_nil_of_le hi
    rw [hdrop] at hspec
    simp only [coilsS] at hspec
    refine Wp.reg_seq (own := fun _ => false) tt_ok ?_
    iterate 1
      refine regv_pure (s1 := ?_) rfl rfl ?_ ?_ ?_
      rotate_left
      · simp [aCos, aCts, aSta, hge]; rfl
      · first | (simp [aCos, aCts, aSta, hge]; done) | (simp [aCos, aCts, aSta, hge]; omega) | (simp [aCos, aCts, aSta, hge, rowsOf]; omega) | skip
    refine regv_nil ?_
    refine Wp.seq ?_
    refine Wp.cond false rfl (fun h => by cases h) (fun _ => ?_)
    refine Wp.exit ?_
    show Wp _ _ _ _
    refine Wp.reg_seq (own := fun _ => false) tt_ok ?_
    iterate 3
      refine regv_pure (s1 := ?_) rfl rfl ?_ ?_ ?_
      rotate_left
      · simp [aCos, aCts, aSta, hge]; rfl
      · first | (simp [aCos, aCts, aSta, hge]; done) | (simp [aCos, aCts, aSta, hge]; omega) | (simp [aCos, aCts, aSta, hge, rowsOf]; omega) | skip
    refine regv_nil ?_
    refine Wp.ret (endQ_ret0 rfl ?_)
    rw [hspec]; exact .tups (.cons (.aggs (.cons (.eq (by simp) rfl) (.cons (.eq (by simp) rfl) (.cons (.eq (by simp) rfl) .nil)))) (.cons (.refl _ rfl) .nil))
end Go.Proofs.Ytgbgmijighbfbaa
