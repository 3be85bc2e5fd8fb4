/- Contracts of functions of packages state and rungeval. -/
import Derived.Test.YtgbgmijighbfbaaT3
set_option linter.unusedSimpArgs false
set_option linter.unusedVariables false
namespace Go.Proofs.Ytgbgmijighbfbaa
open Go.Av
attribute [local simp] runf guardA opf St.ev Go.Av.look St.setd constAV constAV0 opBin opLen intBin St.need lookT TT0 tab resA resOne resAll blt_dec ble_dec beq_dec isPure
attribute [local simp] opMakeSlice opCopy opIndexAddr opLoad opStore St.mem St.rows opUn calleeA toArgs toArg toArg0 toArgs0 shift shift0 shift1 splice cellsOf isFree ofCells TS.isAgg isCell
attribute [local simp] aBools aState opBuildSlice fillA opAppend St.newBox runI valKind withinB readsHp refsD refs noSl opFieldAddr opBuild placeOf Op.operands Call.operands opIndex opExtract opSlice opField partA
attribute [local congr] bind_congr1 map_congr1 cond_congr1
set_option linter.unusedSimpArgs false

/-- A contact. -/
structure Ct where
  kind : Int
  sp : Int
  n : Int
  fr : ByteArray
  to : ByteArray
  deriving Inhabited

/-- A coil. -/
structure Co where
  kind : Int
  sp : Int
  n : Int
  deriving Inhabited

def rowCt (c : Ct) : List AV := [.int .i64 c.kind, .int .i64 c.sp, .int .i64 c.n, .str c.fr, .str c.to]
def rowCo (c : Co) : List AV := [.int .i64 c.kind, .int .i64 c.sp, .int .i64 c.n]
def aCts (l : List Ct) : AV := .list l.length fun i => rowCt (l.getD i default)
def aCos (l : List Co) : AV := .list l.length fun i => rowCo (l.getD i default)
def aRung (lab : ByteArray) (cs : List Ct) (os : List Co) (j : ByteArray) : AV := .agg [.str lab, aCts cs, aCos os, .str j]
def aAddr (sp n : Int) : AV := .agg [.int .i64 sp, .int .i64 n]

def getS (l : List Bool) (i : Int) : Bool × Int := bif decide (0 ≤ i) && decide (i < l.length) then (l.getD i.toNat false, 0) else (false, 3)
def readS (i q m : List Bool) (sp n : Int) : Bool × Int := if sp = 0 then getS i n else if sp = 1 then getS q n else if sp = 2 then getS m n else (false, 8)
def condS (kind : Int) (v was : Bool) : Bool := if kind = 0 then v else if kind = 1 then !v else if kind = 2 then v && !was else !v && was
def seesS (kind : Int) : Bool := decide (kind = 2) || decide (kind = 3)

theorem get_con' (l : List Bool) (i : Int) : Con Try.prog 41 [aBools l, .int .i64 i] (.tup [.bool (getS l i).1, .int .i64 (getS l i).2]) [] :=
  (get_con l i).eq rfl (by unfold getS; cases (decide (0 ≤ i) && decide (i < l.length)) <;> rfl) rfl

theorem conducting_con (k : Int) (v was : Bool) (h0 : 0 ≤ k) (h4 : k < 4) : Con Try.prog 35 [.int .i64 k, .bool v, .bool was] (.bool (condS k v was)) [] := by
  have hk : k = 0 ∨ k = 1 ∨ k = 2 ∨ k = 3 := by omega
  cases v <;> rcases hk with rfl | rfl | rfl | rfl
  all_goals
    refine con_of (T := TT0) tt_ok Try.func35 (c := _) (by unfold Try.f35; rfl) Try.ntmps35 (rs := [.tmp 6]) (by rw [Try.results35]) (by unfold Try.f35; rfl) (by simp) ?_
    simp only [argsCh]
    refine Wp.reg_seq (own := fun _ => false) tt_ok ?_
    iterate 1
      refine regv_pure (s1 := ?_) rfl rfl ?_ ?_ ?_
      rotate_left
      · simp; rfl
      · first | (simp; done) | (simp; omega) | (simp [rowsOf]; omega) | skip
    refine regv_nil ?_
    refine Wp.reg_seq (own := fun _ => false) tt_ok ?_
    iterate 5
      refine regv_pure (s1 := ?_) rfl rfl ?_ ?_ ?_
      rotate_left
      · simp; rfl
      · first | (simp; done) | (simp; omega) | (simp [rowsOf]; omega) | skip
    first
      | (refine regv_pure (s1 := ?_) rfl ?_ ?_ ?_ ?_
         rotate_left
         · simp; done
         · simp; rfl
         · first | (simp; done) | (simp; omega) | (simp [rowsOf]; omega) | skip)
      | (refine regv_skip (s1 := ?_) ?_ ?_ ?_
         rotate_left
         · simp; done
         · simp; rfl)
    first
      | (refine regv_pure (s1 := ?_) rfl ?_ ?_ ?_ ?_
         rotate_left
         · simp; done
         · simp; rfl
         · first | (simp; done) | (simp; omega) | (simp [rowsOf]; omega) | skip)
      | (refine regv_skip (s1 := ?_) ?_ ?_ ?_
         rotate_left
         · simp; done
         · simp; rfl)
    iterate 4
      refine regv_pure (s1 := ?_) rfl rfl ?_ ?_ ?_
      rotate_left
      · simp; rfl
      · first | (simp; done) | (simp; omega) | (simp [rowsOf]; omega) | skip
    first
      | (refine regv_pure (s1 := ?_) rfl ?_ ?_ ?_ ?_
         rotate_left
         · simp; done
         · simp; rfl
         · first | (simp; done) | (simp; omega) | (simp [rowsOf]; omega) | skip)
      | (refine regv_skip (s1 := ?_) ?_ ?_ ?_
         rotate_left
         · simp; done
         · simp; rfl)
    iterate 5
      refine regv_pure (s1 := ?_) rfl rfl ?_ ?_ ?_
      rotate_left
      · simp; rfl
      · first | (simp; done) | (simp; omega) | (simp [rowsOf]; omega) | skip
    refine regv_nil ?_
    refine Wp.ret (endQ_ret0 rfl ?_)
    cases was <;> exact .refl _ rfl

theorem sees_con (c : Ct) : Con Try.prog 34 [.agg (rowCt c)] (.bool (seesS c.kind)) [] := by
  obtain ⟨kind, sp, n, fr, to⟩ := c
  by_cases h : kind = 2
  ·
    refine con_of (T := TT0) tt_ok Try.func34 (c := _) (by unfold Try.f34; rfl) Try.ntmps34 (rs := [.tmp 2]) (by rw [Try.results34]) (by unfold Try.f34; rfl) (by simp) ?_
    simp only [argsCh, rowCt]
    refine Wp.reg_seq (own := fun _ => false) tt_ok ?_
    iterate 2
      refine regv_pure (s1 := ?_) rfl rfl ?_ ?_ ?_
      rotate_left
      · simp [h]; rfl
      · first | (simp [h]; done) | (simp [h]; omega) | (simp [h, rowsOf]; omega) | skip
    refine regv_nil ?_
    refine Wp.reg_seq (own := fun _ => false) tt_ok ?_
    iterate 4
      refine regv_pure (s1 := ?_) rfl rfl ?_ ?_ ?_
      rotate_left
      · simp [h]; rfl
      · first | (simp [h]; done) | (simp [h]; omega) | (simp [h, rowsOf]; omega) | skip
    first
      | (refine regv_pure (s1 := ?_) rfl ?_ ?_ ?_ ?_
         rotate_left
         · simp [h]; done
         · simp [h]; rfl
         · first | (simp [h]; done) | (simp [h]; omega) | (simp [h, rowsOf]; omega) | skip)
      | (refine regv_skip (s1 := ?_) ?_ ?_ ?_
         rotate_left
         · simp [h]; done
         · simp [h]; rfl)
    first
      | (refine regv_pure (s1 := ?_) rfl ?_ ?_ ?_ ?_
         rotate_left
         · simp [h]; done
         · simp [h]; rfl
         · first | (simp [h]; done) | (simp [h]; omega) | (simp [h, rowsOf]; omega) | skip)
      | (refine regv_skip (s1 := ?_) ?_ ?_ ?_
         rotate_left
         · simp [h]; done
         · simp [h]; rfl)
    first
      | (refine regv_pure (s1 := ?_) rfl ?_ ?_ ?_ ?_
         rotate_left
         · simp [h]; done
         · simp [h]; rfl
         · first | (simp [h]; done) | (simp [h]; omega) | (simp [h, rowsOf]; omega) | skip)
      | (refine regv_skip (s1 := ?_) ?_ ?_ ?_
         rotate_left
         · simp [h]; done
         · simp [h]; rfl)
    iterate 2
      refine regv_pure (s1 := ?_) rfl rfl ?_ ?_ ?_
      rotate_left
      · simp [h]; rfl
      · first | (simp [h]; done) | (simp [h]; omega) | (simp [h, rowsOf]; omega) | skip
    refine regv_nil ?_
    refine Wp.ret (endQ_ret0 rfl ?_)
    exact .eq (by first | (simp [seesS, h]; done) | (simp [seesS, h]; rfl)) rfl
  · have hk : (kind == 2) = false := by simp [h]
    refine con_of (T := TT0) tt_ok Try.func34 (c := _) (by unfold Try.f34; rfl) Try.ntmps34 (rs := [.tmp 2]) (by rw [Try.results34]) (by unfold Try.f34; rfl) (by simp) ?_
    simp only [argsCh, rowCt]
    refine Wp.reg_seq (own := fun _ => false) tt_ok ?_
    iterate 2
      refine regv_pure (s1 := ?_) rfl rfl ?_ ?_ ?_
      rotate_left
      · simp [hk]; rfl
      · first | (simp [hk]; done) | (simp [hk]; omega) | (simp [hk, rowsOf]; omega) | skip
    refine regv_nil ?_
    refine Wp.reg_seq (own := fun _ => false) tt_ok ?_
    iterate 4
      refine regv_pure (s1 := ?_) rfl rfl ?_ ?_ ?_
      rotate_left
      · simp [hk]; rfl
      · first | (simp [hk]; done) | (simp [hk]; omega) | (simp [hk, rowsOf]; omega) | skip
    first
      | (refine regv_pure (s1 := ?_) rfl ?_ ?_ ?_ ?_
         rotate_left
         · simp [hk]; done
         · simp [hk]; rfl
         · first | (simp [hk]; done) | (simp [hk]; omega) | (simp [hk, rowsOf]; omega) | skip)
      | (refine regv_skip (s1 := ?_) ?_ ?_ ?_
         rotate_left
         · simp [hk]; done
         · simp [hk]; rfl)
    first
      | (refine regv_pure (s1 := ?_) rfl ?_ ?_ ?_ ?_
         rotate_left
         · simp [hk]; done
         · simp [hk]; rfl
         · first | (simp [hk]; done) | (simp [hk]; omega) | (simp [hk, rowsOf]; omega) | skip)
      | (refine regv_skip (s1 := ?_) ?_ ?_ ?_
         rotate_left
         · simp [hk]; done
         · simp [hk]; rfl)
    first
      | (refine regv_pure (s1 := ?_) rfl ?_ ?_ ?_ ?_
         rotate_left
         · simp [hk]; done
         · simp [hk]; rfl
         · first | (simp [hk]; done) | (simp [hk]; omega) | (simp [hk, rowsOf]; omega) | skip)
      | (refine regv_skip (s1 := ?_) ?_ ?_ ?_
         rotate_left
         · simp [hk]; done
         · simp [hk]; rfl)
    iterate 2
      refine regv_pure (s1 := ?_) rfl rfl ?_ ?_ ?_
      rotate_left
      · simp [hk]; rfl
      · first | (simp [hk]; done) | (simp [hk]; omega) | (simp [hk, rowsOf]; omega) | skip
    refine regv_nil ?_
    refine Wp.ret (endQ_ret0 rfl ?_)
    exact .eq (by first | (simp [seesS, h]; done) | (simp [seesS, h]; rfl)) rfl

theorem read_con (i q m e : List Bool) (sp n : Int) : Con Try.prog 33 [aBools i, aState q m e, aAddr sp n] (.tup [.bool (readS i q m sp n).1, .int .i64 (readS i q m sp n).2]) [] := by
  rcases (show sp < 0 ∨ sp = 0 ∨ sp = 1 ∨ sp = 2 ∨ 3 ≤ sp by omega) with h | rfl | rfl | rfl | h
  · have h1 : ¬ sp = 0 := by omega
    have h2 : ¬ sp = 1 := by omega
    have h3 : ¬ sp = 2 := by omega
    refine con_of (T := TT0) tt_ok Try.func33 (c := _) (by unfold Try.f33; rfl) Try.ntmps33 (rs := [.tmp 6, .tmp 7]) (by rw [Try.results33]) (by unfold Try.f33; rfl) (by simp) ?_
    simp only [argsCh, aAddr, aState, aBools]
    refine Wp.reg_seq (own := fun _ => false) tt_ok ?_
    iterate 4
      refine regv_pure (s1 := ?_) rfl rfl ?_ ?_ ?_
      rotate_left
      · simp [h]; rfl
      · first | (simp [h]; done) | (simp [h]; omega) | (simp [h, rowsOf]; omega) | skip
    refine regv_nil ?_
    refine Wp.reg_seq (own := fun _ => false) tt_ok ?_
    iterate 8
      refine regv_pure (s1 := ?_) rfl rfl ?_ ?_ ?_
      rotate_left
      · simp [h]; rfl
      · first | (simp [h]; done) | (simp [h]; omega) | (simp [h, rowsOf]; omega) | skip
    refine regv_nil ?_
    refine Wp.seq ?_
    refine Wp.reg_seq (own := fun _ => false) tt_ok ?_
    iterate 4
      refine regv_pure (s1 := ?_) rfl rfl ?_ ?_ ?_
      rotate_left
      · simp [h]; rfl
      · first | (simp [h]; done) | (simp [h]; omega) | (simp [h, rowsOf]; omega) | skip
    first
      | (refine regv_pure (s1 := ?_) rfl ?_ ?_ ?_ ?_
         rotate_left
         · simp [h]; done
         · simp [h]; rfl
         · first | (simp [h]; done) | (simp [h]; omega) | (simp [h, rowsOf]; omega) | skip)
      | (refine regv_skip (s1 := ?_) ?_ ?_ ?_
         rotate_left
         · simp [h]; done
         · simp [h]; rfl)
    first
      | (refine regv_pure (s1 := ?_) rfl ?_ ?_ ?_ ?_
         rotate_left
         · simp [h]; done
         · simp [h]; rfl
         · first | (simp [h]; done) | (simp [h]; omega) | (simp [h, rowsOf]; omega) | skip)
      | (refine regv_skip (s1 := ?_) ?_ ?_ ?_
         rotate_left
         · simp [h]; done
         · simp [h]; rfl)
    first
      | (refine regv_pure (s1 := ?_) rfl ?_ ?_ ?_ ?_
         rotate_left
         · simp [h]; done
         · simp [h]; rfl
         · first | (simp [h]; done) | (simp [h]; omega) | (simp [h, rowsOf]; omega) | skip)
      | (refine regv_skip (s1 := ?_) ?_ ?_ ?_
         rotate_left
         · simp [h]; done
         · simp [h]; rfl)
    iterate 1
      refine regv_pure (s1 := ?_) rfl rfl ?_ ?_ ?_
      rotate_left
      · simp [h]; rfl
      · first | (simp [h]; done) | (simp [h]; omega) | (simp [h, rowsOf]; omega) | skip
    refine regv_nil ?_
    refine Wp.cond true rfl (fun _ => ?_) (fun h => by cases h)
    refine Wp.reg_seq (own := fun _ => false) tt_ok ?_
    iterate 2
      refine regv_pure (s1 := ?_) rfl rfl ?_ ?_ ?_
      rotate_left
      · simp [h]; rfl
      · first | (simp [h]; done) | (simp [h]; omega) | (simp [h, rowsOf]; omega) | skip
    refine regv_nil ?_
    refine Wp.ret (endQ_ret0 rfl ?_)
    exact .tups (.cons (.eq (by simp [readS, h1, h2, h3]) rfl) (.cons (.eq (by simp [readS, h1, h2, h3]) rfl) .nil))
  · have hg := get_con' i n
    refine con_of (T := TT0) tt_ok Try.func33 (c := _) (by unfold Try.f33; rfl) Try.ntmps33 (rs := [.tmp 6, .tmp 7]) (by rw [Try.results33]) (by unfold Try.f33; rfl) (by simp) ?_
    simp only [argsCh, aAddr, aState, aBools]
    refine Wp.reg_seq (own := fun _ => false) tt_ok ?_
    iterate 4
      refine regv_pure (s1 := ?_) rfl rfl ?_ ?_ ?_
      rotate_left
      · simp; rfl
      · first | (simp; done) | (simp; omega) | (simp [rowsOf]; omega) | skip
    refine regv_nil ?_
    refine Wp.reg_seq (own := fun _ => false) tt_ok ?_
    iterate 8
      refine regv_pure (s1 := ?_) rfl rfl ?_ ?_ ?_
      rotate_left
      · simp; rfl
      · first | (simp; done) | (simp; omega) | (simp [rowsOf]; omega) | skip
    refine regv_nil ?_
    refine Wp.seq ?_
    refine Wp.reg_seq (own := fun _ => false) tt_ok ?_
    iterate 4
      refine regv_pure (s1 := ?_) rfl rfl ?_ ?_ ?_
      rotate_left
      · simp; rfl
      · first | (simp; done) | (simp; omega) | (simp [rowsOf]; omega) | skip
    first
      | (refine regv_pure (s1 := ?_) rfl ?_ ?_ ?_ ?_
         rotate_left
         · simp; done
         · simp; rfl
         · first | (simp; done) | (simp; omega) | (simp [rowsOf]; omega) | skip)
      | (refine regv_skip (s1 := ?_) ?_ ?_ ?_
         rotate_left
         · simp; done
         · simp; rfl)
    first
      | (refine regv_pure (s1 := ?_) rfl ?_ ?_ ?_ ?_
         rotate_left
         · simp; done
         · simp; rfl
         · first | (simp; done) | (simp; omega) | (simp [rowsOf]; omega) | skip)
      | (refine regv_skip (s1 := ?_) ?_ ?_ ?_
         rotate_left
         · simp; done
         · simp; rfl)
    first
      | (refine regv_pure (s1 := ?_) rfl ?_ ?_ ?_ ?_
         rotate_left
         · simp; done
         · simp; rfl
         · first | (simp; done) | (simp; omega) | (simp [rowsOf]; omega) | skip)
      | (refine regv_skip (s1 := ?_) ?_ ?_ ?_
         rotate_left
         · simp; done
         · simp; rfl)
    iterate 1
      refine regv_pure (s1 := ?_) rfl rfl ?_ ?_ ?_
      rotate_left
      · simp; rfl
      · first | (simp; done) | (simp; omega) | (simp [rowsOf]; omega) | skip
    refine regv_nil ?_
    refine Wp.cond false rfl (fun h => by cases h) (fun _ => ?_)
    refine Wp.skip ?_
    show Wp _ _ _ _
    refine Wp.drawn (own := fun _ => false) tt_ok mixed [0, 1, 2] (by decide +kernel) trivial ?_
    refine regI_upto 6 (r := ?_) ?_ ?_ ?_
    rotate_left
    · simp [List.range, List.range.loop]; rfl
    · first | (simp; done) | (simp; omega) | (simp [rowsOf]; omega) | skip
    refine regI_call (hg) rfl rfl rfl rfl rfl ?_ (fun _ => rfl) (by simp) rfl rfl ?_
    · first | (simp; done) | (simp; omega) | (simp [rowsOf]; omega) | skip
    refine regI_upto 4 (r := ?_) ?_ ?_ ?_
    rotate_left
    · simp [List.range, List.range.loop]; rfl
    · first | (simp; done) | (simp; omega) | (simp [rowsOf]; omega) | skip
    refine regI_nil ?_
    refine Wp.ret (endQ_ret0 rfl ?_)
    exact .tups (.cons (.refl _ rfl) (.cons (.refl _ rfl) .nil))
  · have hg := get_con' q n
    refine con_of (T := TT0) tt_ok Try.func33 (c := _) (by unfold Try.f33; rfl) Try.ntmps33 (rs := [.tmp 6, .tmp 7]) (by rw [Try.results33]) (by unfold Try.f33; rfl) (by simp) ?_
    simp only [argsCh, aAddr, aState, aBools]
    refine Wp.reg_seq (own := fun _ => false) tt_ok ?_
    iterate 4
      refine regv_pure (s1 := ?_) rfl rfl ?_ ?_ ?_
      rotate_left
      · simp; rfl
      · first | (simp; done) | (simp; omega) | (simp [rowsOf]; omega) | skip
    refine regv_nil ?_
    refine Wp.reg_seq (own := fun _ => false) tt_ok ?_
    iterate 8
      refine regv_pure (s1 := ?_) rfl rfl ?_ ?_ ?_
      rotate_left
      · simp; rfl
      · first | (simp; done) | (simp; omega) | (simp [rowsOf]; omega) | skip
    refine regv_nil ?_
    refine Wp.seq ?_
    refine Wp.reg_seq (own := fun _ => false) tt_ok ?_
    iterate 4
      refine regv_pure (s1 := ?_) rfl rfl ?_ ?_ ?_
      rotate_left
      · simp; rfl
      · first | (simp; done) | (simp; omega) | (simp [rowsOf]; omega) | skip
    first
      | (refine regv_pure (s1 := ?_) rfl ?_ ?_ ?_ ?_
         rotate_left
         · simp; done
         · simp; rfl
         · first | (simp; done) | (simp; omega) | (simp [rowsOf]; omega) | skip)
      | (refine regv_skip (s1 := ?_) ?_ ?_ ?_
         rotate_left
         · simp; done
         · simp; rfl)
    first
      | (refine regv_pure (s1 := ?_) rfl ?_ ?_ ?_ ?_
         rotate_left
         · simp; done
         · simp; rfl
         · first | (simp; done) | (simp; omega) | (simp [rowsOf]; omega) | skip)
      | (refine regv_skip (s1 := ?_) ?_ ?_ ?_
         rotate_left
         · simp; done
         · simp; rfl)
    first
      | (refine regv_pure (s1 := ?_) rfl ?_ ?_ ?_ ?_
         rotate_left
         · simp; done
         · simp; rfl
         · first | (simp; done) | (simp; omega) | (simp [rowsOf]; omega) | skip)
      | (refine regv_skip (s1 := ?_) ?_ ?_ ?_
         rotate_left
         · simp; done
         · simp; rfl)
    iterate 1
      refine regv_pure (s1 := ?_) rfl rfl ?_ ?_ ?_
      rotate_left
      · simp; rfl
      · first | (simp; done) | (simp; omega) | (simp [rowsOf]; omega) | skip
    refine regv_nil ?_
    refine Wp.cond false rfl (fun h => by cases h) (fun _ => ?_)
    refine Wp.skip ?_
    show Wp _ _ _ _
    refine Wp.drawn (own := fun _ => false) tt_ok mixed [0, 1, 2] (by decide +kernel) trivial ?_
    refine regI_upto 6 (r := ?_) ?_ ?_ ?_
    rotate_left
    · simp [List.range, List.range.loop]; rfl
    · first | (simp; done) | (simp; omega) | (simp [rowsOf]; omega) | skip
    refine regI_call (hg) rfl rfl rfl rfl rfl ?_ (fun _ => rfl) (by simp) rfl rfl ?_
    · first | (simp; done) | (simp; omega) | (simp [rowsOf]; omega) | skip
    refine regI_upto 4 (r := ?_) ?_ ?_ ?_
    rotate_left
    · simp [List.range, List.range.loop]; rfl
    · first | (simp; done) | (simp; omega) | (simp [rowsOf]; omega) | skip
    refine regI_nil ?_
    refine Wp.ret (endQ_ret0 rfl ?_)
    exact .tups (.cons (.refl _ rfl) (.cons (.refl _ rfl) .nil))
  · have hg := get_con' m n
    refine con_of (T := TT0) tt_ok Try.func33 (c := _) (by unfold Try.f33; rfl) Try.ntmps33 (rs := [.tmp 6, .tmp 7]) (by rw [Try.results33]) (by unfold Try.f33; rfl) (by simp) ?_
    simp only [argsCh, aAddr, aState, aBools]
    refine Wp.reg_seq (own := fun _ => false) tt_ok ?_
    iterate 4
      refine regv_pure (s1 := ?_) rfl rfl ?_ ?_ ?_
      rotate_left
      · simp; rfl
      · first | (simp; done) | (simp; omega) | (simp [rowsOf]; omega) | skip
    refine regv_nil ?_
    refine Wp.reg_seq (own := fun _ => false) tt_ok ?_
    iterate 8
      refine regv_pure (s1 := ?_) rfl rfl ?_ ?_ ?_
      rotate_left
      · simp; rfl
      · first | (simp; done) | (simp; omega) | (simp [rowsOf]; omega) | skip
    refine regv_nil ?_
    refine Wp.seq ?_
    refine Wp.reg_seq (own := fun _ => false) tt_ok ?_
    iterate 4
      refine regv_pure (s1 := ?_) rfl rfl ?_ ?_ ?_
      rotate_left
      · simp; rfl
      · first | (simp; done) | (simp; omega) | (simp [rowsOf]; omega) | skip
    first
      | (refine regv_pure (s1 := ?_) rfl ?_ ?_ ?_ ?_
         rotate_left
         · simp; done
         · simp; rfl
         · first | (simp; done) | (simp; omega) | (simp [rowsOf]; omega) | skip)
      | (refine regv_skip (s1 := ?_) ?_ ?_ ?_
         rotate_left
         · simp; done
         · simp; rfl)
    first
      | (refine regv_pure (s1 := ?_) rfl ?_ ?_ ?_ ?_
         rotate_left
         · simp; done
         · simp; rfl
         · first | (simp; done) | (simp; omega) | (simp [rowsOf]; omega) | skip)
      | (refine regv_skip (s1 := ?_) ?_ ?_ ?_
         rotate_left
         · simp; done
         · simp; rfl)
    first
      | (refine regv_pure (s1 := ?_) rfl ?_ ?_ ?_ ?_
         rotate_left
         · simp; done
         · simp; rfl
         · first | (simp; done) | (simp; omega) | (simp [rowsOf]; omega) | skip)
      | (refine regv_skip (s1 := ?_) ?_ ?_ ?_
         rotate_left
         · simp; done
         · simp; rfl)
    iterate 1
      refine regv_pure (s1 := ?_) rfl rfl ?_ ?_ ?_
      rotate_left
      · simp; rfl
      · first | (simp; done) | (simp; omega) | (simp [rowsOf]; omega) | skip
    refine regv_nil ?_
    refine Wp.cond false rfl (fun h => by cases h) (fun _ => ?_)
    refine Wp.skip ?_
    show Wp _ _ _ _
    refine Wp.drawn (own := fun _ => false) tt_ok mixed [0, 1, 2] (by decide +kernel) trivial ?_
    refine regI_upto 6 (r := ?_) ?_ ?_ ?_
    rotate_left
    · simp [List.range, List.range.loop]; rfl
    · first | (simp; done) | (simp; omega) | (simp [rowsOf]; omega) | skip
    refine regI_call (hg) rfl rfl rfl rfl rfl ?_ (fun _ => rfl) (by simp) rfl rfl ?_
    · first | (simp; done) | (simp; omega) | (simp [rowsOf]; omega) | skip
    refine regI_upto 4 (r := ?_) ?_ ?_ ?_
    rotate_left
    · simp [List.range, List.range.loop]; rfl
    · first | (simp; done) | (simp; omega) | (simp [rowsOf]; omega) | skip
    refine regI_nil ?_
    refine Wp.ret (endQ_ret0 rfl ?_)
    exact .tups (.cons (.refl _ rfl) (.cons (.refl _ rfl) .nil))
  · have h1 : ¬ sp = 0 := by omega
    have h2 : ¬ sp = 1 := by omega
    have h3 : ¬ sp = 2 := by omega
    have h4 : ¬ sp < 0 := by omega
    refine con_of (T := TT0) tt_ok Try.func33 (c := _) (by unfold Try.f33; rfl) Try.ntmps33 (rs := [.tmp 6, .tmp 7]) (by rw [Try.results33]) (by unfold Try.f33; rfl) (by simp) ?_
    simp only [argsCh, aAddr, aState, aBools]
    refine Wp.reg_seq (own := fun _ => false) tt_ok ?_
    iterate 4
      refine regv_pure (s1 := ?_) rfl rfl ?_ ?_ ?_
      rotate_left
      · simp [h, h4]; rfl
      · first | (simp [h, h4]; done) | (simp [h, h4]; omega) | (simp [h, h4, rowsOf]; omega) | skip
    refine regv_nil ?_
    refine Wp.reg_seq (own := fun _ => false) tt_ok ?_
    iterate 8
      refine regv_pure (s1 := ?_) rfl rfl ?_ ?_ ?_
      rotate_left
      · simp [h, h4]; rfl
      · first | (simp [h, h4]; done) | (simp [h, h4]; omega) | (simp [h, h4, rowsOf]; omega) | skip
    refine regv_nil ?_
    refine Wp.seq ?_
    refine Wp.reg_seq (own := fun _ => false) tt_ok ?_
    iterate 4
      refine regv_pure (s1 := ?_) rfl rfl ?_ ?_ ?_
      rotate_left
      · simp [h, h4]; rfl
      · first | (simp [h, h4]; done) | (simp [h, h4]; omega) | (simp [h, h4, rowsOf]; omega) | skip
    first
      | (refine regv_pure (s1 := ?_) rfl ?_ ?_ ?_ ?_
         rotate_left
         · simp [h, h4]; done
         · simp [h, h4]; rfl
         · first | (simp [h, h4]; done) | (simp [h, h4]; omega) | (simp [h, h4, rowsOf]; omega) | skip)
      | (refine regv_skip (s1 := ?_) ?_ ?_ ?_
         rotate_left
         · simp [h, h4]; done
         · simp [h, h4]; rfl)
    first
      | (refine regv_pure (s1 := ?_) rfl ?_ ?_ ?_ ?_
         rotate_left
         · simp [h, h4]; done
         · simp [h, h4]; rfl
         · first | (simp [h, h4]; done) | (simp [h, h4]; omega) | (simp [h, h4, rowsOf]; omega) | skip)
      | (refine regv_skip (s1 := ?_) ?_ ?_ ?_
         rotate_left
         · simp [h, h4]; done
         · simp [h, h4]; rfl)
    first
      | (refine regv_pure (s1 := ?_) rfl ?_ ?_ ?_ ?_
         rotate_left
         · simp [h, h4]; done
         · simp [h, h4]; rfl
         · first | (simp [h, h4]; done) | (simp [h, h4]; omega) | (simp [h, h4, rowsOf]; omega) | skip)
      | (refine regv_skip (s1 := ?_) ?_ ?_ ?_
         rotate_left
         · simp [h, h4]; done
         · simp [h, h4]; rfl)
    iterate 1
      refine regv_pure (s1 := ?_) rfl rfl ?_ ?_ ?_
      rotate_left
      · simp [h, h4]; rfl
      · first | (simp [h, h4]; done) | (simp [h, h4]; omega) | (simp [h, h4, rowsOf]; omega) | skip
    refine regv_nil ?_
    refine Wp.cond true rfl (fun _ => ?_) (fun h => by cases h)
    refine Wp.reg_seq (own := fun _ => false) tt_ok ?_
    iterate 2
      refine regv_pure (s1 := ?_) rfl rfl ?_ ?_ ?_
      rotate_left
      · simp [h, h4]; rfl
      · first | (simp [h, h4]; done) | (simp [h, h4]; omega) | (simp [h, h4, rowsOf]; omega) | skip
    refine regv_nil ?_
    refine Wp.ret (endQ_ret0 rfl ?_)
    exact .tups (.cons (.eq (by simp [readS, h1, h2, h3]) rfl) (.cons (.eq (by simp [readS, h1, h2, h3]) rfl) .nil))
end Go.Proofs.Ytgbgmijighbfbaa
